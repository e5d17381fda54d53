/- TopGoalsGoOn, part 3 of 16: rules, lemmas, walks. Conditions: none. -/
import Derived.Test.YtohodbnnhlddpaaGreatDoorQZ2
import Derived.Test.YtohodbnnhlddpaaGreatDoorRows
import Derived.RecoverIn
namespace Go.Proofs.YtohodbnnhlddpaaGreatDoor
open Go.RowKit
set_option linter.unusedVariables false
noncomputable abbrev Zp := Tryz.prog
instance : BoolT Zp 4 := ⟨Tryz.underlying4⟩
instance : ConcT Zp 133 := ⟨_, Tryz.underlying133, rfl⟩
instance : ConcT Zp 163 := ⟨_, Tryz.underlying163, rfl⟩
instance : ConcT Zp 209 := ⟨_, Tryz.underlying209, rfl⟩
instance : Am Zp 106 1 1 43 := AY (s := 0) Tryz.underlying106 rfl rfl rfl Dk
instance : Am Zp 112 0 0 110 := AY (s := 0) Tryz.underlying112 rfl rfl rfl Dk
instance : Am Zp 125 0 0 9 := AY (s := 0) Tryz.underlying125 rfl rfl rfl Dk
instance : Am Zp 125 1 1 4 := AY (s := 0) Tryz.underlying125 rfl rfl rfl Dk
instance : Am Zp 125 2 2 3 := AY (s := 0) Tryz.underlying125 rfl rfl rfl Dk
instance : Am Zp 133 0 0 9 := AY (s := 0) Tryz.underlying133 rfl rfl rfl Dk
instance : Am Zp 146 0 0 3 := AY (s := 0) Tryz.underlying146 rfl rfl rfl Dk
instance : Am Zp 146 1 1 4 := AY (s := 0) Tryz.underlying146 rfl rfl rfl Dk
instance : Am Zp 163 0 0 43 := AY (s := 0) Tryz.underlying163 rfl rfl rfl Dk
instance : Am Zp 163 1 1 3 := AY (s := 0) Tryz.underlying163 rfl rfl rfl Dk
instance : Am Zp 168 0 0 159 := AY (s := 0) Tryz.underlying168 rfl rfl rfl Dk
instance : Am Zp 168 1 1 3 := AY (s := 0) Tryz.underlying168 rfl rfl rfl Dk
instance : Am Zp 168 2 2 165 := AY (s := 0) Tryz.underlying168 rfl rfl rfl Dk
instance : Am Zp 168 3 3 165 := AY (s := 0) Tryz.underlying168 rfl rfl rfl Dk
instance : Am Zp 182 0 0 22 := AY (s := 0) Tryz.underlying182 rfl rfl rfl Dk
instance : Am Zp 182 1 1 180 := AY (s := 0) Tryz.underlying182 rfl rfl rfl Dk
instance : Am Zp 182 2 2 3 := AY (s := 0) Tryz.underlying182 rfl rfl rfl Dk
instance : Am Zp 182 3 3 3 := AY (s := 0) Tryz.underlying182 rfl rfl rfl Dk
instance : Am Zp 182 4 4 3 := AY (s := 0) Tryz.underlying182 rfl rfl rfl Dk
instance : Am Zp 190 0 0 3 := AY (s := 0) Tryz.underlying190 rfl rfl rfl Dk
instance : Am Zp 190 1 1 3 := AY (s := 0) Tryz.underlying190 rfl rfl rfl Dk
instance : Am Zp 190 2 2 3 := AY (s := 0) Tryz.underlying190 rfl rfl rfl Dk
instance : Am Zp 190 3 3 3 := AY (s := 0) Tryz.underlying190 rfl rfl rfl Dk
instance : Am Zp 190 4 4 4 := AY (s := 0) Tryz.underlying190 rfl rfl rfl Dk
instance : Am Zp 190 5 5 4 := AY (s := 0) Tryz.underlying190 rfl rfl rfl Dk
instance : Am Zp 190 6 6 4 := AY (s := 0) Tryz.underlying190 rfl rfl rfl Dk
instance : Am Zp 190 7 7 4 := AY (s := 0) Tryz.underlying190 rfl rfl rfl Dk
instance : Am Zp 206 0 0 22 := AY (s := 0) Tryz.underlying206 rfl rfl rfl Dk
instance : Am Zp 206 1 1 24 := AY (s := 0) Tryz.underlying206 rfl rfl rfl Dk
instance : Am Zp 206 2 2 203 := AY (s := 0) Tryz.underlying206 rfl rfl rfl Dk
instance : Am Zp 206 3 3 204 := AY (s := 0) Tryz.underlying206 rfl rfl rfl Dk
instance : Am Zp 209 0 0 43 := AY (s := 0) Tryz.underlying209 rfl rfl rfl Dk
instance : Am Zp 209 1 1 3 := AY (s := 0) Tryz.underlying209 rfl rfl rfl Dk
instance : Am Zp 213 0 0 9 := AY (s := 0) Tryz.underlying213 rfl rfl rfl Dk
instance : Am Zp 213 1 1 3 := AY (s := 0) Tryz.underlying213 rfl rfl rfl Dk
instance : Am Zp 213 2 2 159 := AY (s := 0) Tryz.underlying213 rfl rfl rfl Dk
instance : Am Zp 215 0 0 3 := AY (s := 0) Tryz.underlying215 rfl rfl rfl Dk
instance : Am Zp 215 1 1 3 := AY (s := 0) Tryz.underlying215 rfl rfl rfl Dk
instance : Am Zp 215 2 2 3 := AY (s := 0) Tryz.underlying215 rfl rfl rfl Dk
instance : Am Zp 217 0 0 3 := AY (s := 0) Tryz.underlying217 rfl rfl rfl Dk
instance : Am Zp 217 1 1 9 := AY (s := 0) Tryz.underlying217 rfl rfl rfl Dk
instance : Am Zp 217 2 2 3 := AY (s := 0) Tryz.underlying217 rfl rfl rfl Dk
instance : Am Zp 233 0 0 96 := AY (s := 0) Tryz.underlying233 rfl rfl rfl Dk
instance : Am Zp 233 1 1 4 := AY (s := 0) Tryz.underlying233 rfl rfl rfl Dk
instance : Am Zp 248 0 0 5 := AY (s := 0) Tryz.underlying248 rfl rfl rfl Dk
instance : Am Zp 248 1 1 5 := AY (s := 0) Tryz.underlying248 rfl rfl rfl Dk
instance : Am Zp 248 2 2 3 := AY (s := 0) Tryz.underlying248 rfl rfl rfl Dk
instance : Am Zp 26 0 0 24 := AY (s := 0) Tryz.underlying26 rfl rfl rfl Dk
instance : Am Zp 26 1 1 24 := AY (s := 0) Tryz.underlying26 rfl rfl rfl Dk
instance : Am Zp 36 0 0 3 := AY (s := 0) Tryz.underlying36 rfl rfl rfl Dk
instance : Am Zp 36 1 1 9 := AY (s := 0) Tryz.underlying36 rfl rfl rfl Dk
instance : Am Zp 36 2 2 3 := AY (s := 0) Tryz.underlying36 rfl rfl rfl Dk
instance : Am Zp 36 3 3 3 := AY (s := 0) Tryz.underlying36 rfl rfl rfl Dk
instance : Am Zp 36 4 4 34 := AY (s := 0) Tryz.underlying36 rfl rfl rfl Dk
instance : Am Zp 38 0 0 9 := AY (s := 0) Tryz.underlying38 rfl rfl rfl Dk
instance : Am Zp 38 1 1 9 := AY (s := 0) Tryz.underlying38 rfl rfl rfl Dk
instance : Am Zp 38 2 2 3 := AY (s := 0) Tryz.underlying38 rfl rfl rfl Dk
instance : Am Zp 38 3 3 36 := AY (s := 4) Tryz.underlying38 rfl rfl rfl Dk
instance : Am Zp 40 0 0 38 := AY (s := 7) Tryz.underlying40 rfl rfl rfl Dk
instance : Am Zp 40 2 9 36 := AY (s := 4) Tryz.underlying40 rfl rfl rfl Dk
instance : Am Zp 40 3 14 36 := AY (s := 4) Tryz.underlying40 rfl rfl rfl Dk
instance : Am Zp 42 0 0 3 := AY (s := 0) Tryz.underlying42 rfl rfl rfl Dk
instance : Am Zp 42 1 1 38 := AY (s := 7) Tryz.underlying42 rfl rfl rfl Dk
instance : Am Zp 54 0 0 22 := AY (s := 0) Tryz.underlying54 rfl rfl rfl Dk
instance : Am Zp 54 1 1 52 := AY (s := 0) Tryz.underlying54 rfl rfl rfl Dk
instance : Am Zp 72 0 0 22 := AY (s := 0) Tryz.underlying72 rfl rfl rfl Dk
instance : Am Zp 72 1 1 23 := AY (s := 0) Tryz.underlying72 rfl rfl rfl Dk
instance : Am Zp 72 2 2 3 := AY (s := 0) Tryz.underlying72 rfl rfl rfl Dk
instance : Am Zp 84 0 0 40 := AY (s := 18) Tryz.underlying84 rfl rfl rfl Dk
instance : Am Zp 84 1 19 36 := AY (s := 4) Tryz.underlying84 rfl rfl rfl Dk
instance : Am Zp 98 0 0 34 := AY (s := 0) Tryz.underlying98 rfl rfl rfl Dk
instance : Am Zp 98 1 1 34 := AY (s := 0) Tryz.underlying98 rfl rfl rfl Dk
instance : IntT Zp 267 .u64 := ⟨Tryz.underlying267⟩
instance : SlT Zp 289 5 1 1 (.int .u8 0) := Cn Tryz.underlying289 Dk
instance : IntT Zp 3 .i64 := ⟨Tryz.underlying3⟩
instance : IntT Zp 5 .u8 := ⟨Tryz.underlying5⟩
instance : StrT Zp 9 := ⟨Tryz.underlying9⟩
instance : Cg Zp 1 := ⟨_, Tryz.underlying1, rfl⟩
instance : Cg Zp 102 := ⟨_, Tryz.underlying102, rfl⟩
instance : Cg Zp 109 := ⟨_, Tryz.underlying109, rfl⟩
instance : Cg Zp 110 := ⟨_, Tryz.underlying110, rfl⟩
instance : AggT Zp 112 1 := CY Tryz.underlying112 rfl Dk
instance : Cg Zp 121 := ⟨_, Tryz.underlying121, rfl⟩
instance : AggT Zp 125 3 := CY Tryz.underlying125 rfl Dk
instance : Cg Zp 139 := ⟨_, Tryz.underlying139, rfl⟩
instance : Cg Zp 140 := ⟨_, Tryz.underlying140, rfl⟩
instance : Cg Zp 153 := ⟨_, Tryz.underlying153, rfl⟩
instance : Cg Zp 159 := ⟨_, Tryz.underlying159, rfl⟩
instance : Cg Zp 165 := ⟨_, Tryz.underlying165, rfl⟩
instance : Cg Zp 179 := ⟨_, Tryz.underlying179, rfl⟩
instance : Cg Zp 180 := ⟨_, Tryz.underlying180, rfl⟩
instance : Cg Zp 185 := ⟨_, Tryz.underlying185, rfl⟩
instance : AggT Zp 190 8 := CY Tryz.underlying190 rfl Dk
instance : AggT Zp 196 10 := CY Tryz.underlying196 rfl Dk
instance : Cg Zp 202 := ⟨_, Tryz.underlying202, rfl⟩
instance : Cg Zp 203 := ⟨_, Tryz.underlying203, rfl⟩
instance : Cg Zp 204 := ⟨_, Tryz.underlying204, rfl⟩
instance : AggT Zp 215 3 := CY Tryz.underlying215 rfl Dk
instance : Cg Zp 22 := ⟨_, Tryz.underlying22, rfl⟩
instance : Cg Zp 226 := ⟨_, Tryz.underlying226, rfl⟩
instance : Cg Zp 228 := ⟨_, Tryz.underlying228, rfl⟩
instance : Cg Zp 23 := ⟨_, Tryz.underlying23, rfl⟩
instance : Cg Zp 231 := ⟨_, Tryz.underlying231, rfl⟩
instance : AggT Zp 233 2 := CY Tryz.underlying233 rfl Dk
instance : Cg Zp 234 := ⟨_, Tryz.underlying234, rfl⟩
instance : Cg Zp 235 := ⟨_, Tryz.underlying235, rfl⟩
instance : Cg Zp 24 := ⟨_, Tryz.underlying24, rfl⟩
instance : AggT Zp 248 3 := CY Tryz.underlying248 rfl Dk
instance : AggT Zp 249 48 := CY Tryz.underlying249 rfl Dk
instance : AggT Zp 26 2 := CY Tryz.underlying26 rfl Dk
instance : Cg Zp 260 := ⟨_, Tryz.underlying260, rfl⟩
instance : AggT Zp 272 15 := CY Tryz.underlying272 rfl Dk
instance : Cg Zp 3 := ⟨_, Tryz.underlying3, rfl⟩
instance : Cg Zp 34 := ⟨_, Tryz.underlying34, rfl⟩
instance : AggT Zp 36 5 := CY Tryz.underlying36 rfl Dk
instance : AggT Zp 38 8 := CY Tryz.underlying38 rfl Dk
instance : Cg Zp 4 := ⟨_, Tryz.underlying4, rfl⟩
instance : AggT Zp 40 19 := CY Tryz.underlying40 rfl Dk
instance : AggT Zp 42 9 := CY Tryz.underlying42 rfl Dk
instance : Cg Zp 43 := ⟨_, Tryz.underlying43, rfl⟩
instance : Cg Zp 49 := ⟨_, Tryz.underlying49, rfl⟩
instance : Cg Zp 5 := ⟨_, Tryz.underlying5, rfl⟩
instance : Cg Zp 50 := ⟨_, Tryz.underlying50, rfl⟩
instance : Cg Zp 52 := ⟨_, Tryz.underlying52, rfl⟩
instance : AggT Zp 54 2 := CY Tryz.underlying54 rfl Dk
instance : Cg Zp 69 := ⟨_, Tryz.underlying69, rfl⟩
instance : AggT Zp 72 3 := CY Tryz.underlying72 rfl Dk
instance : Cg Zp 74 := ⟨_, Tryz.underlying74, rfl⟩
instance : AggT Zp 84 24 := CY Tryz.underlying84 rfl Dk
instance : Cg Zp 9 := ⟨_, Tryz.underlying9, rfl⟩
instance : Cg Zp 96 := ⟨_, Tryz.underlying96, rfl⟩
instance : BQ Zp 102 1 := At Dk
instance : BQ Zp 112 1 := At Dk
instance : BQ Zp 125 3 := At Dk
instance : BQ Zp 140 1 := At Dk
instance : BQ Zp 153 1 := At Dk
instance : BQ Zp 159 1 := At Dk
instance : BQ Zp 163 2 := At Dk
instance : BQ Zp 179 1 := At Dk
instance : BQ Zp 180 1 := At Dk
instance : BQ Zp 185 1 := At Dk
instance : BQ Zp 190 8 := At Dk
instance : BQ Zp 203 1 := At Dk
instance : BQ Zp 204 1 := At Dk
instance : BQ Zp 209 2 := At Dk
instance : BQ Zp 215 3 := At Dk
instance : BQ Zp 226 1 := At Dk
instance : BQ Zp 233 2 := At Dk
instance : BQ Zp 234 1 := At Dk
instance : BQ Zp 235 1 := At Dk
instance : BQ Zp 24 1 := At Dk
instance : BQ Zp 246 5 := At Dk
instance : BQ Zp 248 3 := At Dk
instance : BQ Zp 26 2 := At Dk
instance : BQ Zp 260 1 := At Dk
instance : BQ Zp 3 1 := At Dk
instance : BQ Zp 34 1 := At Dk
instance : BQ Zp 36 5 := At Dk
instance : BQ Zp 38 8 := At Dk
instance : BQ Zp 4 1 := At Dk
instance : BQ Zp 40 19 := At Dk
instance : BQ Zp 43 1 := At Dk
instance : BQ Zp 50 1 := At Dk
instance : BQ Zp 52 1 := At Dk
instance : BQ Zp 54 2 := At Dk
instance : BQ Zp 69 1 := At Dk
instance : BQ Zp 72 3 := At Dk
instance : BQ Zp 84 24 := At Dk
instance : BQ Zp 9 1 := At Dk
instance : SlT Zp 100 98 2 48 (.agg #[(.slice none 0 0), (.slice none 0 0)]) := Cn Tryz.underlying100 Dk
instance : SlT Zp 107 112 1 8 (.agg #[.nilFunc]) := Cn Tryz.underlying107 Dk
instance : SlT Zp 136 96 1 8 (.pointer none) := Cn Tryz.underlying136 Dk
instance : SlT Zp 140 4 1 1 (.bool false) := Cn Tryz.underlying140 Dk
instance : SlT Zp 159 217 3 32 (.agg #[(iV 0), (AI []), (iV 0)]) := Cn Tryz.underlying159 Dk
instance : SlT Zp 171 52 1 24 (.slice none 0 0) := Cn Tryz.underlying171 Dk
instance : SlT Zp 175 9 1 16 (AI []) := Cn Tryz.underlying175 Dk
instance : SlT Zp 180 24 1 24 (.slice none 0 0) := Cn Tryz.underlying180 Dk
instance : ArrT Zp 196 10 9 1 := arrT_of Tryz.underlying196 Dk
instance : SlT Zp 22 125 3 32 (.agg #[(AI []), (.bool false), (iV 0)]) := Cn Tryz.underlying22 Dk
instance : SlT Zp 228 140 1 24 (.slice none 0 0) := Cn Tryz.underlying228 Dk
instance : SlT Zp 23 40 19 240 (.agg #[(AI []), (AI []), (iV 0), (iV 0), (AI []), (iV 0), (iV 0), (.slice none 0 0), (iV 0), (iV 0), (AI []), (iV 0), (iV 0), (.slice none 0 0), (iV 0), (AI []), (iV 0), (iV 0), (.slice none 0 0)]) := Cn Tryz.underlying23 Dk
instance : SlT Zp 234 233 2 16 (.agg #[(.pointer none), (.bool false)]) := Cn Tryz.underlying234 Dk
instance : ArrT Zp 236 20 190 8 := arrT_of Tryz.underlying236 Dk
instance : SlT Zp 24 3 1 8 (iV 0) := Cn Tryz.underlying24 Dk
instance : ArrT Zp 246 5 1 1 := arrT_of Tryz.underlying246 Dk
instance : ArrT Zp 249 16 248 3 := arrT_of Tryz.underlying249 Dk
instance : ArrT Zp 272 15 9 1 := arrT_of Tryz.underlying272 Dk
instance : SlT Zp 34 36 5 64 (.agg #[(iV 0), (AI []), (iV 0), (iV 0), (.slice none 0 0)]) := Cn Tryz.underlying34 Dk
instance : SlT Zp 52 38 8 104 (.agg #[(AI []), (AI []), (iV 0), (iV 0), (AI []), (iV 0), (iV 0), (.slice none 0 0)]) := Cn Tryz.underlying52 Dk
instance : SlT Zp 56 106 2 16 (.agg #[(iV 0), (iV 0)]) := Cn Tryz.underlying56 Dk
instance : SlT Zp 78 74 1 8 .nilFunc := Cn Tryz.underlying78 Dk
instance : SlT Zp 81 84 24 304 (.agg #[(AI []), (AI []), (iV 0), (iV 0), (AI []), (iV 0), (iV 0), (.slice none 0 0), (iV 0), (iV 0), (AI []), (iV 0), (iV 0), (.slice none 0 0), (iV 0), (AI []), (iV 0), (iV 0), (.slice none 0 0), (iV 0), (AI []), (iV 0), (iV 0), (.slice none 0 0)]) := Cn Tryz.underlying81 Dk
instance : ArrT Zp 93 4 34 1 := arrT_of Tryz.underlying93 Dk
instance : ArrT Zp 99 8 98 2 := arrT_of Tryz.underlying99 Dk
instance : SMapT Zp 165 (.agg #[(iV 0), (iV 0), (iV 0)]) := smapT_of Tryz.underlying165 Tryz.underlying9 Dk
instance : StT Zp 106 [(0, 1), (1, 1)] [(iV 0), (iV 0)] := CG (z := (.agg #[(iV 0), (iV 0)])) Tryz.underlying106 Dk rfl Dk
instance : StT Zp 112 [(0, 1)] [.nilFunc] := CG (z := (.agg #[.nilFunc])) Tryz.underlying112 Dk rfl Dk
instance : StT Zp 125 [(0, 1), (1, 1), (2, 1)] [(AI []), (.bool false), (iV 0)] := CG (z := (.agg #[(AI []), (.bool false), (iV 0)])) Tryz.underlying125 Dk rfl Dk
instance : StT Zp 133 [(0, 1)] [(AI [])] := CG (z := (.agg #[(AI [])])) Tryz.underlying133 Dk rfl Dk
instance : StT Zp 146 [(0, 1), (1, 1)] [(iV 0), (.bool false)] := CG (z := (.agg #[(iV 0), (.bool false)])) Tryz.underlying146 Dk rfl Dk
instance : StT Zp 163 [(0, 1), (1, 1)] [(iV 0), (iV 0)] := CG (z := (.agg #[(iV 0), (iV 0)])) Tryz.underlying163 Dk rfl Dk
instance : StT Zp 168 [(0, 1), (1, 1), (2, 1), (3, 1)] [(.slice none 0 0), (iV 0), (.map none), (.map none)] := CG (z := (.agg #[(.slice none 0 0), (iV 0), (.map none), (.map none)])) Tryz.underlying168 Dk rfl Dk
instance : StT Zp 182 [(0, 1), (1, 1), (2, 1), (3, 1), (4, 1)] [(.slice none 0 0), (.slice none 0 0), (iV 0), (iV 0), (iV 0)] := CG (z := (.agg #[(.slice none 0 0), (.slice none 0 0), (iV 0), (iV 0), (iV 0)])) Tryz.underlying182 Dk rfl Dk
instance : StT Zp 190 [(0, 1), (1, 1), (2, 1), (3, 1), (4, 1), (5, 1), (6, 1), (7, 1)] [(iV 0), (iV 0), (iV 0), (iV 0), (.bool false), (.bool false), (.bool false), (.bool false)] := CG (z := (.agg #[(iV 0), (iV 0), (iV 0), (iV 0), (.bool false), (.bool false), (.bool false), (.bool false)])) Tryz.underlying190 Dk rfl Dk
instance : StT Zp 206 [(0, 1), (1, 1), (2, 1), (3, 1)] [(.slice none 0 0), (.slice none 0 0), (.map none), (.map none)] := CG (z := (.agg #[(.slice none 0 0), (.slice none 0 0), (.map none), (.map none)])) Tryz.underlying206 Dk rfl Dk
instance : StT Zp 209 [(0, 1), (1, 1)] [(iV 0), (iV 0)] := CG (z := (.agg #[(iV 0), (iV 0)])) Tryz.underlying209 Dk rfl Dk
instance : StT Zp 213 [(0, 1), (1, 1), (2, 1)] [(AI []), (iV 0), (.slice none 0 0)] := CG (z := (.agg #[(AI []), (iV 0), (.slice none 0 0)])) Tryz.underlying213 Dk rfl Dk
instance : StT Zp 215 [(0, 1), (1, 1), (2, 1)] [(iV 0), (iV 0), (iV 0)] := CG (z := (.agg #[(iV 0), (iV 0), (iV 0)])) Tryz.underlying215 Dk rfl Dk
instance : StT Zp 217 [(0, 1), (1, 1), (2, 1)] [(iV 0), (AI []), (iV 0)] := CG (z := (.agg #[(iV 0), (AI []), (iV 0)])) Tryz.underlying217 Dk rfl Dk
instance : StT Zp 233 [(0, 1), (1, 1)] [(.pointer none), (.bool false)] := CG (z := (.agg #[(.pointer none), (.bool false)])) Tryz.underlying233 Dk rfl Dk
instance : Bb Zp 246 [.nilFunc, .nilFunc, .nilFunc, .nilFunc, .nilFunc] := A0 (z := (.agg #[.nilFunc, .nilFunc, .nilFunc, .nilFunc, .nilFunc])) Dk rfl
instance : StT Zp 26 [(0, 1), (1, 1)] [(.slice none 0 0), (.slice none 0 0)] := CG (z := (.agg #[(.slice none 0 0), (.slice none 0 0)])) Tryz.underlying26 Dk rfl Dk
instance : StT Zp 36 [(0, 1), (1, 1), (2, 1), (3, 1), (4, 1)] [(iV 0), (AI []), (iV 0), (iV 0), (.slice none 0 0)] := CG (z := (.agg #[(iV 0), (AI []), (iV 0), (iV 0), (.slice none 0 0)])) Tryz.underlying36 Dk rfl Dk
instance : StT Zp 38 [(0, 1), (1, 1), (2, 1), (3, 5)] [(AI []), (AI []), (iV 0), (iV 0), (AI []), (iV 0), (iV 0), (.slice none 0 0)] := CG (z := (.agg #[(AI []), (AI []), (iV 0), (iV 0), (AI []), (iV 0), (iV 0), (.slice none 0 0)])) Tryz.underlying38 Dk rfl Dk
instance : StT Zp 40 [(0, 8), (8, 1), (9, 5), (14, 5)] [(AI []), (AI []), (iV 0), (iV 0), (AI []), (iV 0), (iV 0), (.slice none 0 0), (iV 0), (iV 0), (AI []), (iV 0), (iV 0), (.slice none 0 0), (iV 0), (AI []), (iV 0), (iV 0), (.slice none 0 0)] := CG (z := (.agg #[(AI []), (AI []), (iV 0), (iV 0), (AI []), (iV 0), (iV 0), (.slice none 0 0), (iV 0), (iV 0), (AI []), (iV 0), (iV 0), (.slice none 0 0), (iV 0), (AI []), (iV 0), (iV 0), (.slice none 0 0)])) Tryz.underlying40 Dk rfl Dk
instance : StT Zp 42 [(0, 1), (1, 8)] [(iV 0), (AI []), (AI []), (iV 0), (iV 0), (AI []), (iV 0), (iV 0), (.slice none 0 0)] := CG (z := (.agg #[(iV 0), (AI []), (AI []), (iV 0), (iV 0), (AI []), (iV 0), (iV 0), (.slice none 0 0)])) Tryz.underlying42 Dk rfl Dk
instance : StT Zp 54 [(0, 1), (1, 1)] [(.slice none 0 0), (.slice none 0 0)] := CG (z := (.agg #[(.slice none 0 0), (.slice none 0 0)])) Tryz.underlying54 Dk rfl Dk
instance : StT Zp 72 [(0, 1), (1, 1), (2, 1)] [(.slice none 0 0), (.slice none 0 0), (iV 0)] := CG (z := (.agg #[(.slice none 0 0), (.slice none 0 0), (iV 0)])) Tryz.underlying72 Dk rfl Dk
instance : StT Zp 84 [(0, 19), (19, 5)] [(AI []), (AI []), (iV 0), (iV 0), (AI []), (iV 0), (iV 0), (.slice none 0 0), (iV 0), (iV 0), (AI []), (iV 0), (iV 0), (.slice none 0 0), (iV 0), (AI []), (iV 0), (iV 0), (.slice none 0 0), (iV 0), (AI []), (iV 0), (iV 0), (.slice none 0 0)] := CG (z := (.agg #[(AI []), (AI []), (iV 0), (iV 0), (AI []), (iV 0), (iV 0), (.slice none 0 0), (iV 0), (iV 0), (AI []), (iV 0), (iV 0), (.slice none 0 0), (iV 0), (AI []), (iV 0), (iV 0), (.slice none 0 0), (iV 0), (AI []), (iV 0), (iV 0), (.slice none 0 0)])) Tryz.underlying84 Dk rfl Dk
instance : StT Zp 98 [(0, 1), (1, 1)] [(.slice none 0 0), (.slice none 0 0)] := CG (z := (.agg #[(.slice none 0 0), (.slice none 0 0)])) Tryz.underlying98 Dk rfl Dk
instance : Bb Zp 102 [.nilFunc] := A0 (z := .nilFunc) Dk rfl
instance : Bb Zp 112 [.nilFunc] := A0 (z := (.agg #[.nilFunc])) Dk rfl
instance : Bb Zp 125 [(AI []), (.bool false), (iV 0)] := A0 (z := (.agg #[(AI []), (.bool false), (iV 0)])) Dk rfl
instance : Bb Zp 153 [(.map none)] := A0 (z := (.map none)) Dk rfl
instance : Bb Zp 159 [(.slice none 0 0)] := A0 (z := (.slice none 0 0)) Dk rfl
instance : Bb Zp 163 [(iV 0), (iV 0)] := A0 (z := (.agg #[(iV 0), (iV 0)])) Dk rfl
instance : Bb Zp 179 [.nilFunc] := A0 (z := .nilFunc) Dk rfl
instance : Bb Zp 185 [.nilFunc] := A0 (z := .nilFunc) Dk rfl
instance : Bb Zp 190 [(iV 0), (iV 0), (iV 0), (iV 0), (.bool false), (.bool false), (.bool false), (.bool false)] := A0 (z := (.agg #[(iV 0), (iV 0), (iV 0), (iV 0), (.bool false), (.bool false), (.bool false), (.bool false)])) Dk rfl
instance : Bb Zp 209 [(iV 0), (iV 0)] := A0 (z := (.agg #[(iV 0), (iV 0)])) Dk rfl
instance : Bb Zp 215 [(iV 0), (iV 0), (iV 0)] := A0 (z := (.agg #[(iV 0), (iV 0), (iV 0)])) Dk rfl
instance : Bb Zp 226 [(.map none)] := A0 (z := (.map none)) Dk rfl
instance : Bb Zp 233 [(.pointer none), (.bool false)] := A0 (z := (.agg #[(.pointer none), (.bool false)])) Dk rfl
instance : Bb Zp 234 [(.slice none 0 0)] := A0 (z := (.slice none 0 0)) Dk rfl
instance : Bb Zp 235 [.nilFunc] := A0 (z := .nilFunc) Dk rfl
instance : Bb Zp 24 [(.slice none 0 0)] := A0 (z := (.slice none 0 0)) Dk rfl
instance : Bb Zp 248 [(.int .u8 0), (.int .u8 0), (iV 0)] := A0 (z := (.agg #[(.int .u8 0), (.int .u8 0), (iV 0)])) Dk rfl
instance : Bb Zp 26 [(.slice none 0 0), (.slice none 0 0)] := A0 (z := (.agg #[(.slice none 0 0), (.slice none 0 0)])) Dk rfl
instance : Bb Zp 260 [.nilFunc] := A0 (z := .nilFunc) Dk rfl
instance : Bb Zp 3 [(iV 0)] := A0 (z := (iV 0)) Dk rfl
instance : Bb Zp 34 [(.slice none 0 0)] := A0 (z := (.slice none 0 0)) Dk rfl
instance : Bb Zp 36 [(iV 0), (AI []), (iV 0), (iV 0), (.slice none 0 0)] := A0 (z := (.agg #[(iV 0), (AI []), (iV 0), (iV 0), (.slice none 0 0)])) Dk rfl
instance : Bb Zp 38 [(AI []), (AI []), (iV 0), (iV 0), (AI []), (iV 0), (iV 0), (.slice none 0 0)] := A0 (z := (.agg #[(AI []), (AI []), (iV 0), (iV 0), (AI []), (iV 0), (iV 0), (.slice none 0 0)])) Dk rfl
instance : Bb Zp 4 [(.bool false)] := A0 (z := (.bool false)) Dk rfl
instance : Bb Zp 40 [(AI []), (AI []), (iV 0), (iV 0), (AI []), (iV 0), (iV 0), (.slice none 0 0), (iV 0), (iV 0), (AI []), (iV 0), (iV 0), (.slice none 0 0), (iV 0), (AI []), (iV 0), (iV 0), (.slice none 0 0)] := A0 (z := (.agg #[(AI []), (AI []), (iV 0), (iV 0), (AI []), (iV 0), (iV 0), (.slice none 0 0), (iV 0), (iV 0), (AI []), (iV 0), (iV 0), (.slice none 0 0), (iV 0), (AI []), (iV 0), (iV 0), (.slice none 0 0)])) Dk rfl
instance : Bb Zp 43 [(iV 0)] := A0 (z := (iV 0)) Dk rfl
instance : Bb Zp 50 [.nilFunc] := A0 (z := .nilFunc) Dk rfl
instance : Bb Zp 54 [(.slice none 0 0), (.slice none 0 0)] := A0 (z := (.agg #[(.slice none 0 0), (.slice none 0 0)])) Dk rfl
instance : Bb Zp 69 [.nilIface] := A0 (z := .nilIface) Dk rfl
instance : Bb Zp 72 [(.slice none 0 0), (.slice none 0 0), (iV 0)] := A0 (z := (.agg #[(.slice none 0 0), (.slice none 0 0), (iV 0)])) Dk rfl
instance : Bb Zp 84 [(AI []), (AI []), (iV 0), (iV 0), (AI []), (iV 0), (iV 0), (.slice none 0 0), (iV 0), (iV 0), (AI []), (iV 0), (iV 0), (.slice none 0 0), (iV 0), (AI []), (iV 0), (iV 0), (.slice none 0 0), (iV 0), (AI []), (iV 0), (iV 0), (.slice none 0 0)] := A0 (z := (.agg #[(AI []), (AI []), (iV 0), (iV 0), (AI []), (iV 0), (iV 0), (.slice none 0 0), (iV 0), (iV 0), (AI []), (iV 0), (iV 0), (.slice none 0 0), (iV 0), (AI []), (iV 0), (iV 0), (.slice none 0 0), (iV 0), (AI []), (iV 0), (iV 0), (.slice none 0 0)])) Dk rfl
instance : Bb Zp 93 [(.slice none 0 0), (.slice none 0 0), (.slice none 0 0), (.slice none 0 0)] := A0 (z := (.agg #[(.slice none 0 0), (.slice none 0 0), (.slice none 0 0), (.slice none 0 0)])) Dk rfl
instance : Bb Zp 99 [(.slice none 0 0), (.slice none 0 0), (.slice none 0 0), (.slice none 0 0), (.slice none 0 0), (.slice none 0 0), (.slice none 0 0), (.slice none 0 0), (.slice none 0 0), (.slice none 0 0), (.slice none 0 0), (.slice none 0 0), (.slice none 0 0), (.slice none 0 0), (.slice none 0 0), (.slice none 0 0)] := A0 (z := (.agg #[(.slice none 0 0), (.slice none 0 0), (.slice none 0 0), (.slice none 0 0), (.slice none 0 0), (.slice none 0 0), (.slice none 0 0), (.slice none 0 0), (.slice none 0 0), (.slice none 0 0), (.slice none 0 0), (.slice none 0 0), (.slice none 0 0), (.slice none 0 0), (.slice none 0 0), (.slice none 0 0)])) Dk rfl
instance : AD Zp 5 := AB Tryz.func5
instance : AD Zp 8 := AB Tryz.func8
instance : AD Zp 9 := AB Tryz.func9
instance : AD Zp 10 := AB Tryz.func10
instance : AD Zp 11 := AB Tryz.func11
instance : AD Zp 12 := AB Tryz.func12
instance : AD Zp 13 := AB Tryz.func13
instance : AD Zp 14 := AB Tryz.func14
instance : AD Zp 15 := AB Tryz.func15
instance : AD Zp 16 := AB Tryz.func16
instance : AD Zp 17 := AB Tryz.func17
instance : AD Zp 18 := AB Tryz.func18
instance : AD Zp 19 := AB Tryz.func19
instance : AD Zp 20 := AB Tryz.func20
instance : AD Zp 21 := AB Tryz.func21
instance : AD Zp 22 := AB Tryz.func22
instance : AD Zp 23 := AB Tryz.func23
instance : AD Zp 25 := AB Tryz.func25
instance : AD Zp 28 := AB Tryz.func28
instance : AD Zp 29 := AB Tryz.func29
instance : AD Zp 30 := AB Tryz.func30
instance : AD Zp 31 := AB Tryz.func31
instance : AD Zp 32 := AB Tryz.func32
instance : AD Zp 33 := AB Tryz.func33
instance : AD Zp 34 := AB Tryz.func34
instance : AD Zp 35 := AB Tryz.func35
instance : AD Zp 36 := AB Tryz.func36
instance : AD Zp 37 := AB Tryz.func37
instance : AD Zp 38 := AB Tryz.func38
instance : AD Zp 39 := AB Tryz.func39
instance : AD Zp 40 := AB Tryz.func40
instance : AD Zp 41 := AB Tryz.func41
instance : AD Zp 42 := AB Tryz.func42
instance : AD Zp 43 := AB Tryz.func43
instance : AD Zp 44 := AB Tryz.func44
instance : AD Zp 45 := AB Tryz.func45
instance : AD Zp 46 := AB Tryz.func46
instance : AD Zp 47 := AB Tryz.func47
instance : AD Zp 48 := AB Tryz.func48
instance : AD Zp 49 := AB Tryz.func49
instance : AD Zp 50 := AB Tryz.func50
instance : AD Zp 51 := AB Tryz.func51
instance : AD Zp 52 := AB Tryz.func52
instance : AD Zp 53 := AB Tryz.func53
instance : AD Zp 54 := AB Tryz.func54
instance : AD Zp 55 := AB Tryz.func55
instance : AD Zp 56 := AB Tryz.func56
instance : AD Zp 57 := AB Tryz.func57
instance : AD Zp 58 := AB Tryz.func58
instance : AD Zp 59 := AB Tryz.func59
instance : AD Zp 60 := AB Tryz.func60
instance : AD Zp 61 := AB Tryz.func61
instance : AD Zp 62 := AB Tryz.func62
instance : AD Zp 63 := AB Tryz.func63
instance : AD Zp 64 := AB Tryz.func64
instance : AD Zp 66 := AB Tryz.func66
instance : AD Zp 67 := AB Tryz.func67
instance : AD Zp 70 := AB Tryz.func70
instance : AD Zp 71 := AB Tryz.func71
instance : AD Zp 72 := AB Tryz.func72
instance : AD Zp 73 := AB Tryz.func73
instance : AD Zp 74 := AB Tryz.func74
instance : AD Zp 75 := AB Tryz.func75
instance : AD Zp 76 := AB Tryz.func76
instance : AD Zp 77 := AB Tryz.func77
instance : AD Zp 78 := AB Tryz.func78
instance : AD Zp 79 := AB Tryz.func79
instance : AD Zp 80 := AB Tryz.func80
instance : AD Zp 81 := AB Tryz.func81
instance : AD Zp 82 := AB Tryz.func82
instance : AD Zp 83 := AB Tryz.func83
instance : AD Zp 84 := AB Tryz.func84
instance : AD Zp 85 := AB Tryz.func85
instance : AD Zp 86 := AB Tryz.func86
instance : AD Zp 87 := AB Tryz.func87
instance : AD Zp 88 := AB Tryz.func88
instance : AD Zp 89 := AB Tryz.func89
instance : AD Zp 90 := AB Tryz.func90
instance : AD Zp 91 := AB Tryz.func91
instance : AD Zp 92 := AB Tryz.func92
instance : AD Zp 93 := AB Tryz.func93
instance : AD Zp 94 := AB Tryz.func94
instance : AD Zp 95 := AB Tryz.func95
instance : AD Zp 96 := AB Tryz.func96
instance : AD Zp 97 := AB Tryz.func97
instance : AD Zp 98 := AB Tryz.func98
instance : AD Zp 99 := AB Tryz.func99
instance : AD Zp 100 := AB Tryz.func100
instance : AD Zp 101 := AB Tryz.func101
instance : AD Zp 102 := AB Tryz.func102
instance : AD Zp 103 := AB Tryz.func103
instance : AD Zp 104 := AB Tryz.func104
instance : AD Zp 105 := AB Tryz.func105
instance : AD Zp 106 := AB Tryz.func106
instance : AD Zp 107 := AB Tryz.func107
instance : AD Zp 108 := AB Tryz.func108
instance : AD Zp 109 := AB Tryz.func109
instance : AD Zp 110 := AB Tryz.func110
instance : AD Zp 111 := AB Tryz.func111
instance : AD Zp 112 := AB Tryz.func112
instance : AD Zp 113 := AB Tryz.func113
instance : AD Zp 114 := AB Tryz.func114
instance : AD Zp 119 := AB Tryz.func119
instance : AD Zp 120 := AB Tryz.func120
instance : AD Zp 121 := AB Tryz.func121
instance : AD Zp 122 := AB Tryz.func122
instance : AD Zp 123 := AB Tryz.func123
instance : AD Zp 124 := AB Tryz.func124
instance : AD Zp 125 := AB Tryz.func125
instance : AD Zp 126 := AB Tryz.func126
instance : AD Zp 127 := AB Tryz.func127
instance : AD Zp 130 := AB Tryz.func130
instance : AD Zp 131 := AB Tryz.func131
instance : AD Zp 132 := AB Tryz.func132
instance : AD Zp 133 := AB Tryz.func133
instance : AD Zp 134 := AB Tryz.func134
instance : AD Zp 135 := AB Tryz.func135
instance : AD Zp 136 := AB Tryz.func136
instance : AD Zp 137 := AB Tryz.func137
instance : AD Zp 138 := AB Tryz.func138
instance : AD Zp 139 := AB Tryz.func139
instance : AD Zp 140 := AB Tryz.func140
instance : AD Zp 141 := AB Tryz.func141
instance : AD Zp 142 := AB Tryz.func142
instance : AD Zp 143 := AB Tryz.func143
instance : AD Zp 144 := AB Tryz.func144
instance : AD Zp 145 := AB Tryz.func145
instance : AD Zp 146 := AB Tryz.func146
instance : AD Zp 147 := AB Tryz.func147
instance : AD Zp 148 := AB Tryz.func148
instance : AD Zp 149 := AB Tryz.func149
instance : AD Zp 150 := AB Tryz.func150
instance : AD Zp 151 := AB Tryz.func151
instance : AD Zp 152 := AB Tryz.func152
instance : AD Zp 153 := AB Tryz.func153
instance : AD Zp 154 := AB Tryz.func154
instance : AD Zp 155 := AB Tryz.func155
instance : AD Zp 156 := AB Tryz.func156
instance : AD Zp 157 := AB Tryz.func157
instance : AD Zp 158 := AB Tryz.func158
instance : AD Zp 159 := AB Tryz.func159
instance : AD Zp 160 := AB Tryz.func160
instance : AD Zp 161 := AB Tryz.func161
instance : AD Zp 162 := AB Tryz.func162
instance : AD Zp 163 := AB Tryz.func163
instance : AD Zp 164 := AB Tryz.func164
instance : AD Zp 165 := AB Tryz.func165
instance : AD Zp 166 := AB Tryz.func166
instance : AD Zp 167 := AB Tryz.func167
instance : AD Zp 170 := AB Tryz.func170
instance : AD Zp 171 := AB Tryz.func171
instance : AD Zp 172 := AB Tryz.func172
instance : AD Zp 173 := AB Tryz.func173
instance : AD Zp 174 := AB Tryz.func174
instance : AD Zp 175 := AB Tryz.func175
instance : AD Zp 176 := AB Tryz.func176
instance : AD Zp 178 := AB Tryz.func178
instance : AD Zp 179 := AB Tryz.func179
instance : AD Zp 180 := AB Tryz.func180
instance : AD Zp 181 := AB Tryz.func181
instance : AD Zp 182 := AB Tryz.func182
instance : AD Zp 183 := AB Tryz.func183
instance : AD Zp 184 := AB Tryz.func184
instance : AD Zp 185 := AB Tryz.func185
instance : AD Zp 186 := AB Tryz.func186
instance : AD Zp 187 := AB Tryz.func187
instance : AD Zp 188 := AB Tryz.func188
instance : AD Zp 189 := AB Tryz.func189
instance : AD Zp 190 := AB Tryz.func190
instance : AD Zp 191 := AB Tryz.func191
instance : AD Zp 192 := AB Tryz.func192
instance : AD Zp 193 := AB Tryz.func193
instance : AD Zp 194 := AB Tryz.func194
instance : AD Zp 195 := AB Tryz.func195
instance : AD Zp 196 := AB Tryz.func196
instance : AD Zp 197 := AB Tryz.func197
instance : AD Zp 198 := AB Tryz.func198
instance : AD Zp 201 := AB Tryz.func201
instance : AD Zp 202 := AB Tryz.func202
instance : AD Zp 203 := AB Tryz.func203
instance : AD Zp 204 := AB Tryz.func204
instance : AD Zp 205 := AB Tryz.func205
instance : AD Zp 206 := AB Tryz.func206
instance : AD Zp 207 := AB Tryz.func207
instance : AD Zp 208 := AB Tryz.func208
instance : AD Zp 209 := AB Tryz.func209
instance : AD Zp 210 := AB Tryz.func210
instance : AD Zp 211 := AB Tryz.func211
instance : AD Zp 212 := AB Tryz.func212
instance : AD Zp 213 := AB Tryz.func213
instance : AD Zp 214 := AB Tryz.func214
instance : AD Zp 215 := AB Tryz.func215
instance : AD Zp 216 := AB Tryz.func216
instance : AD Zp 219 := AB Tryz.func219
instance : AD Zp 220 := AB Tryz.func220
instance : AD Zp 221 := AB Tryz.func221
instance : AD Zp 222 := AB Tryz.func222
instance : AD Zp 223 := AB Tryz.func223
instance : AD Zp 224 := AB Tryz.func224
instance : AD Zp 232 := AB Tryz.func232
instance : AD Zp 233 := AB Tryz.func233
instance : AD Zp 234 := AB Tryz.func234
instance : AD Zp 235 := AB Tryz.func235
instance : AD Zp 236 := AB Tryz.func236
instance : AD Zp 237 := AB Tryz.func237
instance : AD Zp 242 := AB Tryz.func242
instance : AD Zp 243 := AB Tryz.func243
instance : AD Zp 244 := AB Tryz.func244
instance : AD Zp 245 := AB Tryz.func245
instance : AD Zp 246 := AB Tryz.func246
instance : AD Zp 247 := AB Tryz.func247
instance : AD Zp 248 := AB Tryz.func248
instance : AD Zp 249 := AB Tryz.func249
instance : AD Zp 250 := AB Tryz.func250
instance : AD Zp 251 := AB Tryz.func251
instance : AD Zp 253 := AB Tryz.func253
instance : AD Zp 255 := AB Tryz.func255
instance : AD Zp 256 := AB Tryz.func256
instance : AD Zp 257 := AB Tryz.func257
instance : AD Zp 258 := AB Tryz.func258
instance : AD Zp 259 := AB Tryz.func259
instance : AD Zp 270 := AB Tryz.func270
instance : AD Zp 276 := AB Tryz.func276
instance : AD Zp 277 := AB Tryz.func277
instance : AD Zp 278 := AB Tryz.func278
instance : AD Zp 288 := AB Tryz.func288
instance : AD Zp 289 := AB Tryz.func289
instance : AD Zp 290 := AB Tryz.func290
instance : AD Zp 295 := AB Tryz.func295
instance : AD Zp 297 := AB Tryz.func297
instance : AD Zp 298 := AB Tryz.func298
instance : AD Zp 299 := AB Tryz.func299
instance : AD Zp 304 := AB Tryz.func304
instance : AD Zp 332 := AB Tryz.func332
instance : AD Zp 333 := AB Tryz.func333
instance : AD Zp 334 := AB Tryz.func334
instance : AD Zp 335 := AB Tryz.func335
instance : AD Zp 336 := AB Tryz.func336
instance : AD Zp 337 := AB Tryz.func337
instance : AD Zp 338 := AB Tryz.func338
instance : AD Zp 339 := AB Tryz.func339
instance : AD Zp 340 := AB Tryz.func340
instance : AD Zp 341 := AB Tryz.func341
instance : AD Zp 342 := AB Tryz.func342
instance : AD Zp 343 := AB Tryz.func343
instance : AD Zp 344 := AB Tryz.func344
instance : AD Zp 345 := AB Tryz.func345
theorem Al : Tryz.prog.follows .mixedOrders = true := by kernel_rfl
section
variable {mk : Prop} [MK mk]
attribute [local semireducible] WC AO Bi BH Be Cq DN BU
section
variable {P : Program} {all : Array Oper} {Z : Fr → DS → List PanicEntry → World → Prop} {K : Fr → DS → World → Prop} {rest : List Oper} {f : Fr} {ds : DS} {w : World}
 {d : Nat} {ty : TypeId} {pos : String} {af : Array Edge}
theorem W_defer {g : FuncId} {t : Nat} {xs : List Operand} {C : Array TypeId} {vs v1 v2 : LV} (I : f t = .func (.func g) v1.toArray v2.toArray) (H : evL f xs = vs)
  (h : AO P all Z K rest f ({ target := .fn (.func g) v2.toArray, args := (v1 ++ vs).toArray } :: ds) w) : AO P all Z K (⟨none, .defer ⟨.value (.tmp t), xs.toArray, C⟩, ty, pos, af, none⟩ :: rest) f ds w := by
 have B : (execOp (ev f) ⟨none, .defer ⟨.value (.tmp t), xs.toArray, C⟩, ty, pos, af, none⟩).run P w = .ok (.defer { target := .fn (.func g) v2.toArray, args := (v1 ++ vs).toArray }) w := by
  rw [evL_map] at H;simp only [execOp, resolve, ev, I, Deferred.ofValue, Sem.run_bind, Sem.run_pure, Result.andThen_ok];simp [← H]
 unfold AO;simp only [A7, if_true, BU, B];exact h
theorem W_assert_yes {x : Operand} {r T : TypeId} {v : Value} [hT : ConcT P T] (V : ev f x = .iface T v) (h : AO P all Z K rest (upd f d (.tuple #[v, .bool true])) ds w) :
  AO P all Z K (⟨some d, .typeAssert x r T true, ty, pos, af, none⟩ :: rest) f ds w := by
 obtain ⟨W, X, e⟩ := hT.out;refine Aq rfl ?_ h;simp only [execOp, V, Instr.typeAssert, Sem.run_bind, run_underlying X, Result.andThen_ok];cases W <;> simp_all
theorem W_assert_nil {x : Operand} {r T : TypeId} {z : Value} [hT : ConcT P T] (V : ev f x = .nilIface) (e : (P.info? T).map (·.zero) = some (some z)) (h : AO P all Z K rest (upd f d (.tuple #[z, .bool false])) ds w) :
  AO P all Z K (⟨some d, .typeAssert x r T true, ty, pos, af, none⟩ :: rest) f ds w := by
 obtain ⟨W, X, g⟩ := hT.out;obtain ⟨i, F, D⟩ := Option.map_eq_some_iff.1 e;refine Aq rfl ?_ h;simp only [execOp, V, Instr.typeAssert, Sem.run_bind, run_underlying X, Result.andThen_ok];cases W <;> simp_all [zeroValue, typeInfo]
end
def plainOp : Op → Bool
 | .move _ | .assign _ | .alloc _ | .store _ _ _ | .load _ _ | .extract _ _ | .typeAssert _ _ _ _ | .fieldAddr _ _ _ | .binOp _ _ _ _ _ => true
 | _ => false
theorem run_v {P : Program} {w : World} (s : Sem Value) : (∃ v w', (do pure (Next.value (← s)) : Sem Next).run P w = .ok (.value v) w') ∨ ∃ x w', (do pure (Next.value (← s)) : Sem Next).run P w = .halt x w' := by
 simp only [Sem.run_bind];cases s.run P w with
 | ok v w' => exact .inl ⟨v, w', rfl⟩
 | halt x w' => exact .inr ⟨x, w', rfl⟩
theorem plain_cases {P : Program} {w : World} {ρ : Operand → Value} {o : Oper} (h : plainOp o.op = true) :
  (∃ v w', (execOp ρ o).run P w = .ok (.value v) w') ∨ (∃ w', (execOp ρ o).run P w = .ok .skip w') ∨ ∃ x w', (execOp ρ o).run P w = .halt x w' := by
 obtain ⟨E, N, s, q, p, g⟩ := o;cases N <;> simp only [plainOp] at h <;> try (cases h; done)
 case store t a x =>
  simp only [execOp, Sem.run_bind];cases (Instr.storeAt t (ρ a) (ρ x)).run P w with
  | ok v w' => exact .inr (.inl ⟨w', rfl⟩)
  | halt x w' => exact .inr (.inr ⟨x, w', rfl⟩)
 case move => exact .inl ⟨_, _, rfl⟩
 case assign => exact .inl ⟨_, _, rfl⟩
 all_goals
  simp only [execOp];rcases run_v (P := P) (w := w) _ with ⟨v, w', h⟩ | ⟨x, w', h⟩
  ·exact .inl ⟨v, w', h⟩
  ·exact .inr (.inr ⟨x, w', h⟩)
theorem S_of_WOps {P : Program} {ops : Array Oper} {F : Fence} {n N : Nat} {Q : Exit → Act → List Frame → World → Prop} {cs : List Frame} {K : Fr → DS → World → Prop} (q : ∀ g, F.fn g)
  (u : ∀ m w', m.tmps.size = N → K (CM m) m.defers w' → Q .normal m cs w') : ∀ (l : List Nat) (T : List Oper) (a : Act) (w : World), l.map (fun i => ops[i]?) = T.map some → (T.all fun o => plainOp o.op && dOk N o.dst) = true →
   a.tmps.size = N → AO P ops (fun _ _ _ _ => False) K T (CM a) a.defers w → wpOpsSIn F n P ops Q l a cs w
 | [], [], a, w, _, _, hn, h => u a w hn h
 | [], _ :: _, _, _, h, _, _, _ => by simp at h
 | _ :: _, [], _, _, h, _, _, _ => by simp at h
 | i :: l, o :: T, a, w, hl, p, hn, h => by
  simp only [List.map_cons, List.cons.injEq] at hl;simp only [List.all_cons, Bool.and_eq_true] at p;obtain ⟨⟨y, s⟩, p⟩ := p;unfold wpOpsSIn;simp only [hl.1];refine ⟨fun g _ => q g, ?_⟩;have e : ∀ v, CM (a.put o.dst v) = putF (CM a) o.dst v := fun v => toFr_putF v (by rw [hn]; exact s)
  have go : ∀ v w', AO P ops (fun _ _ _ _ => False) K T (putF (CM a) o.dst v) a.defers w' → wpOpsSIn F n P ops Q l (a.put o.dst v) cs w' := fun v w' t =>
   S_of_WOps q u l T (a.put o.dst v) w' hl.2 p (by rw [size_put]; exact hn) (by rw [e, defers_put]; exact t)
  unfold AO at h;rw [wanted_toFr];by_cases r : A7 ops (CM a) o.guard = true
  ·rw [if_pos r] at h ⊢;unfold BU at h;rw [ev_toFr];rcases plain_cases (P := P) (w := w) (ρ := ev (CM a)) y with ⟨v, w', B⟩ | ⟨w', B⟩ | ⟨x, w', B⟩
   ·rw [B] at h ⊢; exact go _ _ h
   ·rw [B] at h ⊢; exact go _ _ h
   ·rw [B] at h;cases x <;> exact h.elim
  ·rw [if_neg r] at h ⊢;exact go _ _ h
theorem callsD_rec {P : Program} {g : FuncId} {fn : Func} {id d N : Nat} {C : Array TypeId} {s : TypeId} {q : String} {r : Array Edge} {T : List Oper} {y : Code} {args : LV} {w : World} {u u1 : FrameMode} {v0 : Value} {G : Value → World → Prop}
  (hf : P.funcs[g]? = some fn) (S : fn.body = some (.seq (.region id (⟨some d, .call ⟨.builtin .recover, #[], C⟩, s, q, r, none⟩ :: T).toArray false) y)) (hn : fn.ntmps = N) (hl : args.length ≤ N) (hd : d < N)
  (a0 : (T.all fun o => plainOp o.op && dOk N o.dst) = true) (hy : CR N false y = true)
  (hu : (u = .returning ∧ u1 = .returning ∧ v0 = .nilIface) ∨ ∃ p, u = .panicking [{ v := p, recovered := false }] ∧ u1 = .panicking [{ v := p, recovered := true }] ∧ v0 = p)
  (h : AO P (⟨some d, .call ⟨.builtin .recover, #[], C⟩, s, q, r, none⟩ :: T).toArray (fun _ _ _ _ => False) (WC P ⟨N, none⟩ y (Cq P fn G fun _ _ => False)) T (upd (argF args) d v0) [] w) :
  CallsDIn Fence.wide 0 P g args.toArray u w (fun e x w' => match e with | .returned v => x = u1 ∧ G v w' | _ => False) := by
 have D : (args.toArray ++ Array.replicate (fn.ntmps - args.toArray.size) undef).size = N := by simp [hn]; omega
 refine callsDIn_of_wpSIn hf S trivial fun m t L => ?_;refine wpSIn_seq (wpSIn_region ?_)
 have a1 : List.range (⟨some d, .call ⟨.builtin .recover, #[], C⟩, s, q, r, none⟩ :: T : List Oper).toArray.size = 0 :: (List.range T.length).map (· + 1) := by
  rw [List.size_toArray, List.length_cons, List.range_succ_eq_map]
 rw [a1];unfold wpOpsSIn;simp only [List.getElem?_toArray, List.getElem?_cons_zero];refine ⟨fun _ _ => trivial, ?_⟩;simp only [Region.wanted, if_true]
 have hr : ∀ ρ : Operand → Value, (execOp ρ ⟨some d, .call ⟨.builtin .recover, #[], C⟩, s, q, r, none⟩).run P w = .ok .recover w := fun ρ => by
  simp [execOp, resolve, invoke, builtin]
 rw [hr]
 have B : ∀ z : Frame, z = { m with mode := u1 } → wpOpsSIn Fence.wide 0 P (⟨some d, .call ⟨.builtin .recover, #[], C⟩, s, q, r, none⟩ :: T : List Oper).toArray
   (Exit.thenS (y.wpSIn Fence.wide 0 P (bodyPostS P fn m t fun e x w' => match e with | .returned v => x = u1 ∧ G v w' | _ => False)) (bodyPostS P fn m t fun e x w' => match e with | .returned v => x = u1 ∧ G v w' | _ => False))
   ((List.range T.length).map (· + 1)) (({ tmps := args.toArray ++ Array.replicate (fn.ntmps - args.toArray.size) undef, defers := [] } : Act).put (some d) v0) (z :: t) w := by
  rintro z rfl;refine S_of_WOps (N := N) (K := WC P ⟨N, none⟩ y (Cq P fn G fun _ _ => False)) (fun _ => trivial) ?_ _ T _ w ?_ a0 (by rw [size_put]; exact D) ?_
  ·intro M w' V hwc;have hp := By (P := P) (n := ⟨N, none⟩) y (Cq P fn G fun _ _ => False) M w' V hy hwc;refine wpSIn_of_wpIn rfl (wpIn_mono hp ?_);rintro e a2 w2 ⟨_, H⟩;cases e with
   | normal => obtain ⟨X, W⟩ := H; obtain ⟨l, A, E⟩ := run_results W; exact ⟨X, _, rfl, _, E, rfl, A⟩
   | ret => obtain ⟨X, W⟩ := H; obtain ⟨l, A, E⟩ := run_results W; exact ⟨X, _, rfl, _, E, rfl, A⟩
   | panic ch => exact H.2.elim
   | exit _ => exact H.elim
   | goto _ => exact H.elim
   | outgrown => exact H.elim
  ·refine List.ext_getElem? fun i => ?_;rw [List.map_map, List.getElem?_map, List.getElem?_map];by_cases F : i < T.length
   ·rw [List.getElem?_range F]; simp [F]
   ·rw [List.getElem?_eq_none (by simpa using F), List.getElem?_eq_none (by simpa using F)]; rfl
  ·rw [defers_put, toFr_put v0 (by rw [D]; exact hd), toFr_args];exact h
 rcases hu with ⟨rfl, rfl, rfl⟩ | ⟨p, rfl, rfl, rfl⟩
 ·have I : recoverD (m :: t) = none := by simp [recoverD, L]
  rw [I];exact B m (by cases m; simp_all)
 ·have I : recoverD (m :: t) = some (v0, { m with mode := .panicking [{ v := v0, recovered := true }] } :: t) := by simp [recoverD, L]
  rw [I];exact B _ rfl
section
variable {P : Program} {fn : Func} {R : Value → World → Prop} {Y : List PanicEntry → World → Prop} {f : Fr} {w : World} {ds : DS}
theorem run_loadVar_one {T b o : Nat} {v : Value} (C : Cg P T) (g : w.cell? ⟨b, o, none⟩ = some v) : (loadVar T ⟨b, o, none⟩).run P w = .ok v w := by
 obtain ⟨W, X, h⟩ := C.out
 have e : (isAgg T).run P w = .ok false w := by
  simp only [isAgg, Sem.run_bind, run_underlying X, Result.andThen_ok];cases W <;> simp_all [aggD]
 simp only [loadVar, Sem.run_bind, e, Result.andThen_ok];simp [g]
theorem A9 {T b o t : Nat} {v : Value} {l : List ResultVar} {k : LV → Prop} [hT : Cg P T] (H : f t = .pointer (some ⟨b, o, none⟩)) (e : w.cell? ⟨b, o, none⟩ = some v) (h : C4 P l f w fun r => k (v :: r)) : C4 P (.cell t T :: l) f w k :=
 ⟨_, v, H, run_loadVar_one hT e, h⟩
theorem BA (h : C4 P fn.results.toList f w fun l => R (tupleOf l) w) : DN P fn R Y .ret f [] w := h
theorem finD_ret_def {g : FuncId} {a c : LV} [hg : AD P g] {G : World → Prop} (T : CallsDIn Fence.wide 0 P g (a ++ c).toArray .returning w (fun e m w' => match e with | .returned _ => m = .returning ∧ G w' | _ => False))
  (h : ∀ w', G w' → C4 P fn.results.toList f w' fun l => R (tupleOf l) w') : DN P fn R Y .ret f [{ target := .fn (.func g) c.toArray, args := a.toArray }] w := by
 obtain ⟨t, X, W, p⟩ := hg.out;refine ⟨by simp, .inr ⟨_, _, g, (a ++ c).toArray, rfl, ?_, T.mono ?_⟩⟩
 ·simp only [invoke, callFunc, program];simp [Sem.run, X, W, p]
 ·intro e m w' F;cases e with
  | returned v => obtain ⟨rfl, D⟩ := F; exact h w' D
  | panicked _ => exact F.elim
  | outgrown => exact F.elim
theorem finD_pan_def {g : FuncId} {a c : LV} {p : Value} [hg : AD P g] {G : World → Prop} (T : CallsDIn Fence.wide 0 P g (a ++ c).toArray (.panicking [{ v := p, recovered := false }]) w (fun e m w' => match e with | .returned _ => m = .panicking [{ v := p, recovered := true }] ∧ G w' | _ => False))
  (h : ∀ w', G w' → C4 P fn.results.toList f w' fun l => R (tupleOf l) w') : DN P fn R Y (.panic [{ v := p, recovered := false }]) f [{ target := .fn (.func g) c.toArray, args := a.toArray }] w := by
 obtain ⟨t, X, W, q⟩ := hg.out;refine ⟨by simp, .inr ⟨_, _, g, (a ++ c).toArray, rfl, ?_, T.mono ?_⟩⟩
 ·simp only [invoke, callFunc, program];simp [Sem.run, X, W, q]
 ·intro e m w' F;cases e with
  | returned v => obtain ⟨rfl, D⟩ := F; exact h w' D
  | panicked _ => exact F.elim
  | outgrown => exact F.elim
end
class Nx (g : Prop) (c s : outParam Prop) : Prop where
 imp : c → s → g
theorem nx {g c s : Prop} [h : Nx g c s] (y : c) (x : s) : g := h.imp y x
section
variable {P : Program} {n : Cf} {Q : DQ} {f : Fr} {ds : DS} {w : World} {a b : Code} {k : Fr → DS → World → Prop} {i j l : Nat} {o : Operand} {c : List PanicEntry} {all : Array Oper} {Z : Fr → DS → List PanicEntry → World → Prop}
instance : Nx (WC P n (.seq a b) Q f ds w) (0 = 0) (WC P n a (Bi (WC P n b Q) Q) f ds w) := ⟨fun _ => C_seq⟩
instance : Nx (WC P n (.block i a) Q f ds w) (0 = 0) (WC P n a (BH i Q) f ds w) := ⟨fun _ => C_block⟩
instance : Nx (WC P n (.scope a) Q f ds w) (0 = 0) (WC P n a (Be Q) f ds w) := ⟨fun _ => C_scope⟩
instance : Nx (WC P n .skip Q f ds w) (0 = 0) (Q .normal f ds w) := ⟨fun _ => C_skip⟩
instance : Nx (WC P n (.label l) Q f ds w) (0 = 0) (Q .normal f ds w) := ⟨fun _ => C_label⟩
instance : Nx (WC P n .ret Q f ds w) (0 = 0) (Q .ret f ds w) := ⟨fun _ => C_ret⟩
instance : Nx (WC P n (.exit i) Q f ds w) (0 = 0) (Q (.exit i) f ds w) := ⟨fun _ => C_exit⟩
instance : Nx (Bi k Q .normal f ds w) (0 = 0) (k f ds w) := ⟨fun _ => Q_then⟩
instance : Nx (Bi k Q .ret f ds w) (0 = 0) (Q .ret f ds w) := ⟨fun _ => Q_then_ret⟩
instance : Nx (Bi k Q (.exit i) f ds w) (0 = 0) (Q (.exit i) f ds w) := ⟨fun _ => Q_then_exit⟩
instance : Nx (Bi k Q (.panic c) f ds w) (0 = 0) (Q (.panic c) f ds w) := ⟨fun _ => Q_then_panic⟩
instance : Nx (BH i Q .normal f ds w) (0 = 0) (Q .normal f ds w) := ⟨fun _ => Q_block⟩
instance : Nx (BH i Q .ret f ds w) (0 = 0) (Q .ret f ds w) := ⟨fun _ => Q_block_ret⟩
instance : Nx (BH i Q (.panic c) f ds w) (0 = 0) (Q (.panic c) f ds w) := ⟨fun _ => Q_block_panic⟩
instance : Nx (BH i Q (.exit i) f ds w) (0 = 0) (Q .normal f ds w) := ⟨fun _ => Q_block_here⟩
instance : Nx (asnQ k .normal f ds w) (0 = 0) (k f ds w) := ⟨fun _ => Q_asn⟩
instance : Nx (Be Q .normal f ds w) (0 = 0) (Q .normal f ds w) := ⟨fun _ => fun h => h⟩
instance : Nx (Be Q .ret f ds w) (0 = 0) (Q .ret f ds w) := ⟨fun _ => fun h => h⟩
instance : Nx (Be Q (.exit i) f ds w) (0 = 0) (Q (.exit i) f ds w) := ⟨fun _ => fun h => h⟩
instance : Nx (Be Q (.panic c) f ds w) (0 = 0) (Q (.panic c) f ds w) := ⟨fun _ => fun h => h⟩
instance : Nx (AO P all Z k [] f ds w) (0 = 0) (k f ds w) := ⟨fun _ => AH⟩
instance (priority := low) : Nx (BH j Q (.exit i) f ds w) (Nat.beq i j = false) (Q (.exit i) f ds w) := ⟨Q_block_on⟩
instance : Nx (WC P n (.cond o a b) Q f ds w) (ev f o = .bool true) (WC P n a Q f ds w) := ⟨C_cond_t⟩
theorem nf (T : ev f o = .bool false) (h : WC P n b Q f ds w) : WC P n (.cond o a b) Q f ds w := C_cond_f T h
end
end
theorem mSx {p : Prop} (h : p := by first | (simp; done) | (simp; omega) | (intros; simp at *; omega)) : p := h
theorem mSy {p : Prop} (h : p := by first | (simp; done) | (intro x hx hlt; simp at hx; omega) | (intro x hx hlt; simp at hx ⊢; omega) | (intro x hx hlt; simp at hx; rcases hx with rfl | rfl <;> first | omega | (simp; done) | (simp; omega))) : p := h
theorem mKk {p : Prop} (h : p := by first | assumption | (apply New.E; assumption) | (apply Put.E; assumption)) : p := h
section
variable {mk : Prop} [MK mk] {X : List Nat} {w w' : World} {ok : Nat → Prop}
theorem kB {b : Nat} {T : TypeId} {L : LV} (k : Keep X w w') (h : Blk w b T L) (hb : b ∉ X) : Blk w' b T L := h.E k hb
theorem kC {b off : Nat} {cs : LV} (k : Keep X w w') (h : Cells w b off cs) (hb : b ∉ X) : Cells w' b off cs := h.E k hb
theorem kS {v : Value} {n : Nat} {cs : LV} (k : Keep X w w') (h : Sl ok w v n cs) (hX : ∀ b, ok b → b ∉ X) : Sl ok w' v n cs := h.E k hX
theorem kT {Y : List Nat} {a : World} (k : Keep Y w w') (h : Keep X a w) (hY : ∀ x ∈ Y, x < a.heap.size → x ∈ X) : Keep X a w' := h.trans k hY
end
theorem mKp {p : Prop} (h : p := by
  first
  | assumption | apply Keep.refl | (apply New.E; assumption) | (apply Put.E; assumption) | (apply New.D; assumption) | (apply Put.D; assumption)
  | (apply Blk.cell; assumption; rfl) | (apply Blk.cell; apply New.D; assumption; rfl) | (apply Blk.cell; apply Put.D; assumption; rfl)
  | (apply kB; exact mKk; exact mKp; exact mSx) | (apply Keep.cell; exact mKk; exact mKp; exact mSx) | (apply kC; exact mKk; exact mKp; exact mSx) | (apply kS; exact mKk; exact mKp; exact mSx)
  | (apply FAt.keep'; exact mKk; exact mKp; exact mSx) | (apply FsAt.keep'; exact mKk; exact mKp; exact mSx) | (apply RsAt.keep'; exact mKk; exact mKp; exact mSx) | (apply SlAt.keep'; exact mKk; exact mKp; exact mSx) | (apply PF.keep'; exact mKk; exact mKp; exact mSx)
  | (apply kT; exact mKk; exact mKp; exact mSy)) : p := h
theorem mFa {S : World → Prop} {W : World} {a : Addr} {v : Value} (h : ∀ V, S V → V.cell? a = some v) (hW : S W) : W.cell? a = some v := h W hW
theorem mFs {S : World → Prop} {W : World} {b o : Nat} {cs : LV} (h : ∀ V, S V → Cells V b o cs) (hW : S W) : Cells W b o cs := h W hW
theorem mLk {p : Prop} (h : p := by
  first
  | assumption
  | (apply Blk.cell; assumption; rfl)
  | (apply mFa; assumption; exact hW)
  | (apply hW.cell; assumption; simp; done)
  | (apply hW.cell; apply Blk.cell; assumption; rfl; simp; done)
  | exact mKp) : p := h
theorem mLs {p : Prop} (h : p := by
  first
  | assumption
  | (apply Blk.cells; assumption)
  | (apply mFs; assumption; exact hW)
  | (apply hW.cells; assumption; simp; done)
  | exact mKp) : p := h
theorem mOo {p : Prop} (h : p := by omega) : p := h
theorem mRr {p : Prop} (h : p := by first | exact Bu mOo mOo | exact Cj mOo mOo | exact Bw mOo mOo) : p := h
structure Bx (p : Prop) : Prop where
  x : p
section
variable {P : Program} {all : Array Oper} {Z : Fr → DS → List PanicEntry → World → Prop} {K : Fr → DS → World → Prop} {rest : List Oper} {f : Fr} {ds : DS} {w : World} {d : Nat} {ty : TypeId} {pos : String} {af : Array Edge} {T U : TypeId} {x y : Operand}
abbrev W1 (P : Program) (all : Array Oper) (Z : Fr → DS → List PanicEntry → World → Prop) (K : Fr → DS → World → Prop) (rest : List Oper) (f : Fr) (ds : DS) (w : World) (d : Nat) (ty : TypeId) (pos : String) (af : Array Edge) (o : Op) : Prop := AO P all Z K (⟨some d, o, ty, pos, af, none⟩ :: rest) f ds w
theorem g_move (h : W1 P all Z K rest f ds w d ty pos af (.move x)) : AO P all Z K (⟨some d, .move x, ty, pos, af, none⟩ :: rest) f ds w := h
theorem g_load (h : W1 P all Z K rest f ds w d ty pos af (.load T x)) : AO P all Z K (⟨some d, .load T x, ty, pos, af, none⟩ :: rest) f ds w := h
theorem g_bin {o : BinOp} (h : W1 P all Z K rest f ds w d ty pos af (.binOp o T x y U)) : AO P all Z K (⟨some d, .binOp o T x y U, ty, pos, af, none⟩ :: rest) f ds w := h
theorem g_idx (h : W1 P all Z K rest f ds w d ty pos af (.indexAddr T x y)) : AO P all Z K (⟨some d, .indexAddr T x y, ty, pos, af, none⟩ :: rest) f ds w := h
theorem g_slice {a b c : Option Operand} (h : W1 P all Z K rest f ds w d ty pos af (.slice T x a b c)) : AO P all Z K (⟨some d, .slice T x a b c, ty, pos, af, none⟩ :: rest) f ds w := h
end
theorem mO1 {G N : Prop} (k : N) (h : Bx N → G := by
  intro k
  first
  | (apply g_move
     first
     | (apply Af; rfl; exact k.x)
     | (apply Ag; rfl; exact k.x)
     | (apply Az; rfl; exact k.x)
     | (apply AP; rfl; exact k.x)
     | (apply CK; rfl; exact k.x)
     | (apply M_agg; rfl; exact k.x)
     | (apply M_tuple; rfl; exact k.x)
     | (apply M_func; rfl; exact k.x)
     | (apply M_map; rfl; exact k.x)
     | (apply W_move; exact k.x))
  | (apply AF; rfl; exact k.x)
  | (apply g_load
     first
     | (apply AM; rfl; exact mLk; exact k.x)
     | (apply Bh; rfl; exact mKp; rfl; exact k.x)
     | (refine AR rfl (by rfl) mLs ?_; exact k.x))
  | (apply AK; rfl; exact k.x)
  | (apply g_bin
     first
     | (apply W_lss; rfl; rfl; exact fun _ => k.x; exact fun hc => absurd hc mOo)
     | (apply W_lss; rfl; rfl; exact fun hc => absurd hc mOo; exact fun _ => k.x)
     | (apply W_eql; rfl; rfl; exact fun _ => k.x; exact fun hc => absurd mOo hc)
     | (apply W_eql; rfl; rfl; exact fun hc => absurd hc mOo; exact fun _ => k.x)
     | (apply W_add; rfl; rfl; exact mRr; exact k.x)
     | (apply W_neq; rfl; rfl; exact fun _ => k.x; exact fun hc => absurd hc mOo)
     | (apply W_neq; rfl; rfl; exact fun hc => absurd mOo hc; exact fun _ => k.x)
     | (apply W_sub; rfl; rfl; exact mRr; exact k.x)
     | (apply W_mul; rfl; rfl; exact mRr; exact k.x)
     | (apply W_leq; rfl; rfl; exact fun _ => k.x; exact fun hc => absurd hc mOo)
     | (apply W_leq; rfl; rfl; exact fun hc => absurd hc mOo; exact fun _ => k.x)
     | (apply W_gtr; rfl; rfl; exact fun _ => k.x; exact fun hc => absurd hc mOo)
     | (apply W_gtr; rfl; rfl; exact fun hc => absurd hc mOo; exact fun _ => k.x)
     | (apply W_geq; rfl; rfl; exact fun _ => k.x; exact fun hc => absurd hc mOo)
     | (apply W_geq; rfl; rfl; exact fun hc => absurd hc mOo; exact fun _ => k.x)
     | (apply W_beql; rfl; rfl; exact k.x)
     | (apply W_bneq; rfl; rfl; exact k.x)
     | (apply W_quo; rfl; rfl; exact mOo; exact mOo; exact mRr; exact k.x)
     | (apply W_rem; rfl; rfl; exact mOo; exact mOo; exact k.x))
  | (apply Ac; exact k.x)
  | (apply g_idx
     first
     | (apply W_idx1; rfl; rfl; assumption; exact mOo; exact k.x)
     | (apply W_idx1; rfl; rfl; rfl; exact mOo; exact k.x)
     | (apply C5; rfl; rfl; assumption; exact mOo; exact k.x)
     | (apply C5; rfl; rfl; rfl; exact mOo; exact k.x)
     | (apply Da; rfl; rfl; exact mOo; exact mOo; exact k.x)
     | (apply Cl; rfl; rfl; exact mOo; exact mOo; exact k.x))
  | (apply A4; rfl; exact k.x)
  | (apply Au; rfl; exact k.x)
  | (apply CD; rfl; exact k.x)
  | (apply W_slen; rfl; exact k.x)
  | (apply W_extract; rfl; rfl; exact k.x)
  | (apply W_not; rfl; exact k.x)
  | (apply Dd; rfl; rfl; exact k.x)
  | (apply Bo; rfl; rfl; exact k.x)
  | (apply W_buildArr; rfl; rfl; exact k.x)
  | (apply W_conv; rfl; exact mRr; exact k.x)
  | (apply DO; exact k.x)
  | (apply g_slice
     first
     | (apply W_slice_arr; rfl; exact k.x)
     | (apply W_slice_lh; rfl; rfl; rfl; exact mOo; exact mOo; exact mOo; exact k.x)
     | (apply W_slice_l; rfl; rfl; exact mOo; exact mOo; exact k.x)
     | (apply W_slice_h; rfl; rfl; exact mOo; exact mOo; exact k.x)
     | (apply W_sslice_lh; rfl; rfl; rfl; exact mOo; exact mOo; exact k.x)
     | (apply W_sslice_l; rfl; rfl; exact mOo; exact k.x)
     | (apply W_sslice_h; rfl; rfl; exact mOo; exact k.x))
  | (apply W_sidx; rfl; rfl; assumption; exact k.x)
  | (refine W_sidx (j := 0) rfl rfl (by assumption) ?_; exact k.x)) : G := h ⟨k⟩
theorem go {G N : Prop} (k : N) (h : Bx N → G := by
  intro k
  repeat' first
    | (apply nx; rfl)
    | (apply nf; rfl)
    | apply AJ
    | (apply D_R; rfl; rfl
       · intro W hW
         try subst hW
         repeat' first | (apply AS; rfl) | (apply Ax; rfl) | exact AH ⟨rfl, rfl, rfl⟩ | refine mO1 ?_)
    | apply Cb
    | (apply AS; rfl)
    | (apply Ax; rfl)
    | refine mO1 ?_
    | (apply D_lss; rfl; rfl; rfl; rfl; intro _; rotate_left; exact fun hc => absurd hc mOo)
    | (apply D_lss; rfl; rfl; rfl; rfl; exact fun hc => absurd hc mOo; intro _)
    | (apply D_leq; rfl; rfl; rfl; rfl; intro _; rotate_left; exact fun hc => absurd hc mOo)
    | (apply D_leq; rfl; rfl; rfl; rfl; exact fun hc => absurd hc mOo; intro _)
    | (apply D_gtr; rfl; rfl; rfl; rfl; intro _; rotate_left; exact fun hc => absurd hc mOo)
    | (apply D_gtr; rfl; rfl; rfl; rfl; exact fun hc => absurd hc mOo; intro _)
    | (apply D_geq; rfl; rfl; rfl; rfl; intro _; rotate_left; exact fun hc => absurd hc mOo)
    | (apply D_geq; rfl; rfl; rfl; rfl; exact fun hc => absurd hc mOo; intro _)
    | (apply D_eql; rfl; rfl; rfl; rfl; intro _; rotate_left; exact fun hc => absurd mOo hc)
    | (apply D_eql; rfl; rfl; rfl; rfl; exact fun hc => absurd hc mOo; intro _)
    | (apply D_neq; rfl; rfl; rfl; rfl; intro _; rotate_left; exact fun hc => absurd hc mOo)
    | (apply D_neq; rfl; rfl; rfl; rfl; exact fun hc => absurd mOo hc; intro _)
  exact k.x) : G := h ⟨k⟩
section
variable {mk : Prop} [MK mk]
def BZ (c : UInt8) : Bool := decide (97 ≤ c.toNat) && decide (c.toNat ≤ 122)
def isUp (c : UInt8) : Bool := decide (65 ≤ c.toNat) && decide (c.toNat ≤ 90)
def A8 (c : UInt8) : Bool := decide (48 ≤ c.toNat) && decide (c.toNat ≤ 57)
def isLet (c : UInt8) : Bool := BZ c || isUp c
def inName (c : UInt8) : Bool := BZ c || A8 c || decide (c.toNat = 95)
def inComm (c : UInt8) : Bool := !decide (c.toNat = 10)
inductive Fml where
 | mk (op : Int) (name : LU) (val bound : Int) (args : List Fml)
def Fml.op : Fml → Int | .mk o _ _ _ _ => o
def Fml.name : Fml → LU | .mk _ n _ _ _ => n
def Fml.val : Fml → Int | .mk _ _ v _ _ => v
def Fml.bound : Fml → Int | .mk _ _ _ b _ => b
def Fml.args : Fml → List Fml | .mk _ _ _ _ a => a
def Ae : Fml := ⟨0, [], 0, 0, []⟩
structure Sgn where
 name : LU
 input : Bool
 size : Int
structure Rqm where
 part : LU
 name : LU
 kind : Int
 formula : Fml
structure Spc where
 sigs : List Sgn
 reqs : List Rqm
structure Edt where
 kind : Int
 req : Rqm
def keysL : List (LU) := [[105, 110, 112, 117, 116], [111, 117, 116, 112, 117, 116], [112, 97, 114, 116], [97, 115, 115, 117, 109, 101], [103, 117, 97, 114, 97, 110, 116, 101, 101], [116, 114, 117, 101], [102, 97, 108, 115, 101], [97, 100, 100], [100, 114, 111, 112], [114, 101, 112, 108, 97, 99, 101]]
def restB (c : UInt8) : Bool := BZ c || A8 c || decide (c.toNat = 95)
def CJ (s : LU) : Bool :=
 decide (1 ≤ s.length) && decide (s.length ≤ 12) && BZ (s.getD 0 0) && s.all restB && !decide (s ∈ keysL)
def nodeF (N : Int) (l : List Fml) : Fml := match l with
 | [a] => a
 | l => ⟨N, [], 0, 0, l⟩
def isF (s : LU) (n : Int) : Fml := ⟨3, s, n, 0, []⟩
def notF (f : Fml) : Fml := ⟨4, [], 0, 0, [f]⟩
abbrev LF := List Fml
def Test (g : FuncId) (p : UInt8 → Bool) : Prop := ∀ (c : UInt8) (w : World), Fn Zp g [enc8 c] w fun v Z => v = .bool (p c) ∧ Z = w
theorem small_ok : Test 246 BZ := by
 intro c w;refine AG Tryz.func246 rfl Tryz.ntmps246 ?_;repeat refine nx rfl ?_
 refine AJ (Ac (AP rfl ?_));repeat refine nx rfl ?_
 (refine AJ (Af rfl ?_) <;> (refine W_leq rfl rfl (fun T => ?_) (fun T => ?_) <;> try omega) <;> refine AP rfl ?_ <;> (first | refine Ax rfl ?_ | (refine AS rfl ?_; refine Af rfl ?_)) <;> (first | refine Ax rfl ?_ | (refine AS rfl ?_; (refine W_leq rfl rfl (fun T => ?_) (fun T => ?_) <;> try omega))) <;> ((first | refine A4 rfl ?_ | refine Au rfl ?_); refine AP rfl ?_) <;> refine Ac (AP rfl (AH ?_)))
 all_goals
  repeat refine nx rfl ?_
  exact AA rfl ⟨by simp [BZ, upd, Nat.beq]; omega, rfl⟩
theorem dig_ok : Test 247 A8 := by
 intro c w;refine AG Tryz.func247 rfl Tryz.ntmps247 ?_;repeat refine nx rfl ?_
 refine AJ (Ac (AP rfl ?_));repeat refine nx rfl ?_
 (refine AJ (Af rfl ?_) <;> (refine W_leq rfl rfl (fun T => ?_) (fun T => ?_) <;> try omega) <;> refine AP rfl ?_ <;> (first | refine Ax rfl ?_ | (refine AS rfl ?_; refine Af rfl ?_)) <;> (first | refine Ax rfl ?_ | (refine AS rfl ?_; (refine W_leq rfl rfl (fun T => ?_) (fun T => ?_) <;> try omega))) <;> ((first | refine A4 rfl ?_ | refine Au rfl ?_); refine AP rfl ?_) <;> refine Ac (AP rfl (AH ?_)))
 all_goals
  repeat refine nx rfl ?_
  exact AA rfl ⟨by simp [A8, upd, Nat.beq]; omega, rfl⟩
theorem comm_ok : Test 244 inComm := by
 intro c w;refine AG Tryz.func244 rfl Tryz.ntmps244 ?_;repeat refine nx rfl ?_
 refine AJ (Ac (AP rfl ?_));repeat refine nx rfl ?_
 (refine AJ (Af rfl ?_) <;> (refine W_neq rfl rfl (fun T => ?_) (fun T => ?_) <;> try omega) <;> refine Ac (AP rfl (AH ?_)))
 all_goals
  repeat refine nx rfl ?_
  exact AA rfl ⟨by simp [inComm, upd, Nat.beq]; omega, rfl⟩
theorem let_ok : Test 249 isLet := by
 intro c w;refine AG Tryz.func249 rfl Tryz.ntmps249 (go ?_);refine AC (small_ok c w) rfl ?_;rintro v Z ⟨rfl, rfl⟩;cases hs : BZ c with
 | true =>
  refine go ?_
  all_goals
   refine go ?_;exact AA rfl ⟨by simp [isLet, hs, upd, Nat.beq], rfl⟩
 | false =>
  (refine AP rfl (AS rfl (Af rfl ?_)) <;> (refine AS rfl ?_; (refine W_leq rfl rfl (fun T => ?_) (fun T => ?_) <;> try omega)) <;> refine AS rfl (AP rfl ?_) <;> (first | refine Ax rfl ?_ | (refine AS rfl ?_; refine Af rfl ?_)) <;> (first | refine Ax rfl ?_ | (refine AS rfl ?_; (refine W_leq rfl rfl (fun T => ?_) (fun T => ?_) <;> try omega))) <;> (refine AS rfl ?_; ((first | refine A4 rfl ?_ | refine Au rfl ?_); refine AP rfl ?_)) <;> refine Au rfl (AP rfl (Ac (AP rfl (AH ?_)))))
  all_goals
   repeat refine nx rfl ?_
   exact AA rfl ⟨by simp [isLet, hs, isUp, upd, Nat.beq]; omega, rfl⟩
theorem name_ok : Test 245 inName := by
 intro c w;refine AG Tryz.func245 rfl Tryz.ntmps245 (go ?_);refine AC (small_ok c w) rfl ?_;rintro v Z ⟨rfl, rfl⟩;cases hs : BZ c with
 | true =>
  refine go ?_
  all_goals
   refine go ?_;exact AA rfl ⟨by simp [inName, hs, upd, Nat.beq], rfl⟩
 | false =>
  refine go ?_;refine AC (dig_ok c _) rfl ?_;rintro v Z ⟨rfl, rfl⟩;cases hd : A8 c with
  | true =>
   refine go ?_
   all_goals
    refine go ?_;exact AA rfl ⟨by simp [inName, hs, hd, upd, Nat.beq], rfl⟩
  | false =>
   (refine Au rfl (AP rfl (AP rfl (AS rfl (Af rfl ?_)))) <;> (refine AS rfl ?_; (refine W_eql rfl rfl (fun T => ?_) (fun T => ?_) <;> try omega)) <;> refine Au rfl (AP rfl (Ac (AP rfl (AH ?_)))))
   all_goals
    repeat refine nx rfl ?_
    exact AA rfl ⟨by simp [inName, hs, hd, upd, Nat.beq]; omega, rfl⟩
def hasPre (t s : LU) : Bool := decide (s.length ≤ t.length) && decide (t.take s.length = s)
theorem hasPre_iff (t s : LU) : hasPre t s = true ↔ s <+: t := by
 simp only [hasPre, Bool.and_eq_true, decide_eq_true_eq, List.prefix_iff_eq_take];constructor
 ·rintro ⟨_, h⟩; exact h.symm
 ·intro h; exact ⟨by have := congrArg List.length h; simp at this; omega, h.symm⟩
theorem pre2_ok (t s : LU) (w : World) : Fn Zp 270 [AI t, AI s] w fun v w' => v = .bool (hasPre t s) ∧ w' = w := by
 refine AG Tryz.func270 rfl Tryz.ntmps270 ?_;repeat refine nx rfl ?_
 refine AJ (Ac (AP rfl ?_));repeat refine nx rfl ?_
 (refine AJ (CK rfl (W_slen rfl (CK rfl (W_slen rfl ?_)))) <;> (refine W_geq rfl rfl (fun T => ?_) (fun T => ?_) <;> try omega) <;> refine AP rfl ?_ <;> (first | refine Ax rfl ?_ | (refine AS rfl ?_; refine CK rfl ?_)) <;> (first | refine Ax rfl ?_ | (refine AS rfl ?_; refine CK rfl ?_)) <;> (first | refine Ax rfl ?_ | (refine AS rfl ?_; refine W_slen rfl ?_)) <;> (first | refine Ax rfl ?_ | (refine AS rfl ?_; refine W_sslice_h rfl rfl U ?_)) <;> (first | refine Ax rfl ?_ | (refine AS rfl ?_; refine CK rfl ?_)) <;> (first | refine Ax rfl ?_ | (refine AS rfl ?_; refine W_seql rfl rfl (fun T => ?_) (fun T => ?_))) <;> ((first | refine A4 rfl ?_ | refine Au rfl ?_); refine AP rfl ?_) <;> refine Ac (AP rfl (AH ?_)))
 all_goals
  refine go ?_;exact AA rfl ⟨by simp [hasPre, upd, Nat.beq]; first | omega | (intro; omega) | (intro h; exact absurd h Do) | exact ⟨by omega, by assumption⟩ | skip, rfl⟩
theorem pre_ok (t s : LU) (w : World) : Fn Zp 250 [AI t, AI s] w fun v w' => v = .bool (hasPre t s) ∧ w' = w := by
 refine AG Tryz.func250 rfl Tryz.ntmps250 (go ?_);refine AC (pre2_ok t s w) rfl ?_;rintro v w' ⟨rfl, rfl⟩;exact EU
abbrev pt (s : Nat) : Value := .pointer (sm s)
theorem Ab {w : World} {B e size n g : Nat} {v : Value} {xs : LV} (h : w.ownsRow B e size v n xs) (z : v.ownBlock = some g) : B ≤ g ∧ g < w.heap.size := by
 rcases h.2 with ⟨rfl, _⟩ | ⟨b, x, o, rfl, X, W, _⟩
 ·cases z
 ·cases z; exact ⟨X, (Array.getElem?_eq_some_iff.1 W).1⟩
inductive FAt (ok : Nat → Prop) (w : World) : Value → Fml → Prop where
 | mk (op : Int) (name : LU) (val bound : Int) (args : LF) (av : Value) (L : List (LV)) (hS : Sl ok w av args.length L.flatten) (hL : L.length = args.length) (h5 : ∀ c ∈ L, c.length = 5)
   (hA : ∀ (i : Nat) (c : LV) (g : Fml), L[i]? = some c → args[i]? = some g → FAt ok w (.agg c.toArray) g) : FAt ok w (.agg #[iV op, AI name, iV val, iV bound, av]) ⟨op, name, val, bound, args⟩
theorem FAt.E {ok : Nat → Prop} {X : List Nat} {w w' : World} {v : Value} {f : Fml} (h : FAt ok w v f) (k : Keep X w w') (a : ∀ b, ok b → b ∉ X) : FAt ok w' v f := by
 induction h with
 | mk op name val bound args av L hS hL h5 hA ih => exact .mk op name val bound args av L (hS.E k a) hL h5 ih
theorem FAt.ext {ok : Nat → Prop} {w w' : World} {v : Value} {f : Fml} (h : FAt ok w v f) (k : Ext w w') : FAt ok w' v f := h.E k fun _ _ => by simp
theorem FAt.mono {ok ok' : Nat → Prop} {w : World} {v : Value} {f : Fml} (h : FAt ok w v f) (P : ∀ b, ok b → ok' b) : FAt ok' w v f := by
 induction h with
 | mk op name val bound args av L hS hL h5 hA ih => exact .mk op name val bound args av L (hS.mono P) hL h5 ih
theorem Sl.lt {ok : Nat → Prop} {w : World} {v : Value} {n : Nat} {cs : LV} (h : Sl ok w v n cs) (T : n ≠ 0 → cs ≠ []) : Sl (fun b => ok b ∧ b < w.heap.size) w v n cs := by
 obtain ⟨a, x, q, X, W, R, c⟩ := h;refine ⟨a, x, q, X, W, R, ?_⟩;by_cases s : n = 0
 ·exact .inl s
 ·obtain ⟨b, r, H, S, D⟩ := c.resolve_left s;refine .inr ⟨b, r, H, ⟨S, ?_⟩, D⟩
  match cs, T s with
  | u :: cs, _ => exact World.block_lt_of_cell? w _ (D 0 u rfl)
theorem flatten_ne {L : List (LV)} {n : Nat} (D : L.length = n) (P : ∀ c ∈ L, c.length = 5) : n ≠ 0 → L.flatten ≠ [] := by
 intro s e
 match L, D with
 | [], D => exact s D.symm
 | c :: L, _ =>
  have := P c O;simp at e;simp [e.1] at this
theorem FAt.lt {ok : Nat → Prop} {w : World} {v : Value} {f : Fml} (h : FAt ok w v f) : FAt (fun b => ok b ∧ b < w.heap.size) w v f := by
 induction h with
 | mk op name val bound args av L hS hL h5 hA ih => exact .mk op name val bound args av L (hS.lt (flatten_ne hL h5)) hL h5 ih
theorem FAt.form {ok : Nat → Prop} {w : World} {v : Value} {f : Fml} (h : FAt ok w v f) : ∃ D, v = .agg #[iV f.op, AI f.name, iV f.val, iV f.bound, D] ∧
  ∃ L : List (LV), Sl ok w D f.args.length L.flatten ∧ L.length = f.args.length ∧ (∀ c ∈ L, c.length = 5) ∧ ∀ (i : Nat) (c : LV) (g : Fml), L[i]? = some c → f.args[i]? = some g → FAt ok w (.agg c.toArray) g := by
 cases h with
 | mk op name val bound args D L hS hL h5 hA => exact ⟨D, rfl, L, hS, hL, h5, hA⟩
theorem FAt.leaf (ok : Nat → Prop) (w : World) (N : Int) (name : LU) (R I : Int) : FAt ok w (.agg #[iV N, AI name, iV R, iV I, .slice none 0 0]) ⟨N, name, R, I, []⟩ :=
 .mk N name R I [] _ [] ⟨none, 0, rfl, by simp, by omega, fun _ => rfl, .inl rfl⟩ rfl (fun c T => by cases T) (fun i c g h => by simp at h)
def FsAt (ok : Nat → Prop) (w : World) (L : List (LV)) (l : LF) : Prop :=
 L.length = l.length ∧ (∀ c ∈ L, c.length = 5) ∧ ∀ (i : Nat) (c : LV) (g : Fml), L[i]? = some c → l[i]? = some g → FAt ok w (.agg c.toArray) g
theorem FsAt.nil (ok : Nat → Prop) (w : World) : FsAt ok w [] [] := ⟨rfl, (fun c T => by cases T), fun i c g h => by simp at h⟩
theorem FsAt.cons {ok : Nat → Prop} {w : World} {c : LV} {f : Fml} {L : List (LV)} {l : LF} (h : FAt ok w (.agg c.toArray) f) (T : c.length = 5) (M : FsAt ok w L l) : FsAt ok w (c :: L) (f :: l) := by
 refine ⟨by simp [M.1], fun d C => ?_, fun i d g F z => ?_⟩
 ·rcases List.mem_cons.1 C with rfl | C
  ·exact T
  ·exact M.2.1 d C
 ·cases i with
  | zero => simp at F z; subst F z; exact h
  | succ i => exact M.2.2 i d g (by simpa using F) EC
theorem FsAt.snoc {ok : Nat → Prop} {w : World} {c : LV} {f : Fml} : ∀ {L : List (LV)} {l : LF}, FsAt ok w L l → FAt ok w (.agg c.toArray) f → c.length = 5 → FsAt ok w (L ++ [c]) (l ++ [f])
 | [], [], _, h, T => FsAt.cons h T (FsAt.nil ok w)
 | [], _ :: _, hl, _, _ => by have := hl.1; simp at this
 | _ :: _, [], hl, _, _ => by have := hl.1; simp at this
 | d :: L, g :: l, hl, h, T => FsAt.cons (hl.2.2 0 d g rfl rfl) (hl.2.1 d O) (FsAt.snoc ⟨by simpa using hl.1, fun c T => hl.2.1 c Dw, fun i c g F z => hl.2.2 (i + 1) c g (by simpa using F) EC⟩ h T)
theorem FsAt.E {ok : Nat → Prop} {X : List Nat} {w w' : World} {L : List (LV)} {l : LF} (h : FsAt ok w L l) (k : Keep X w w') (a : ∀ b, ok b → b ∉ X) : FsAt ok w' L l :=
 ⟨h.1, h.2.1, fun i c g F z => (h.2.2 i c g F z).E k a⟩
theorem FsAt.mono {ok ok' : Nat → Prop} {w : World} {L : List (LV)} {l : LF} (h : FsAt ok w L l) (P : ∀ b, ok b → ok' b) : FsAt ok' w L l :=
 ⟨h.1, h.2.1, fun i c g F z => (h.2.2 i c g F z).mono P⟩
theorem FsAt.lt {ok : Nat → Prop} {w : World} {L : List (LV)} {l : LF} (h : FsAt ok w L l) : FsAt (fun b => ok b ∧ b < w.heap.size) w L l :=
 ⟨h.1, h.2.1, fun i c g F z => (h.2.2 i c g F z).lt⟩
theorem FsAt.flat {ok : Nat → Prop} {w : World} {L : List (LV)} {l : LF} (h : FsAt ok w L l) : L.flatten.length = l.length * 5 := by
 obtain ⟨X, W, R⟩ := h;rw [← X];clear X R
 induction L with
 | nil => rfl
 | cons c L ih =>
  have := W c O;have := ih fun d C => W d (by simp [C]);simp only [List.flatten_cons, List.length_append, List.length_cons]; omega
theorem FAt.node {ok : Nat → Prop} {w : World} {D : Value} {L : List (LV)} {l : LF} (N : Int) (name : LU) (R I : Int) (a : Sl ok w D l.length L.flatten) (h : FsAt ok w L l) :
  FAt ok w (.agg #[iV N, AI name, iV R, iV I, D]) ⟨N, name, R, I, l⟩ := .mk N name R I l D L a h.1 h.2.1 h.2.2
theorem FAt.cells {ok : Nat → Prop} {w : World} {v : Value} {f : Fml} (h : FAt ok w v f) : ∃ c : LV, v = .agg c.toArray ∧ c.length = 5 ∧ oneC c := by
 obtain ⟨D, rfl, L, b, _⟩ := h.form;obtain ⟨a, x, rfl, _⟩ := b;refine ⟨_, rfl, rfl, ?_⟩;intro u r;simp at r;rcases r with rfl | rfl | rfl | rfl | rfl <;> rfl
def zero5 : LV := [iV 0, AI [], iV 0, iV 0, .slice none 0 0]
theorem Bk : (madeCells (Value.agg #[iV 0, AI [], iV 0, iV 0, .slice none 0 0]).cells (1 * 5)).toList = zero5 := by kernel_rfl
theorem made10 : (madeCells (Value.agg #[iV 0, AI [], iV 0, iV 0, .slice none 0 0]).cells (2 * 5)).toList = zero5 ++ zero5 := by kernel_rfl
theorem FsAt.fresh {ok : Nat → Prop} {w w' : World} {e : TypeId} {L : List (LV)} {l : LF} (n : New w w' e L.flatten) (h : FsAt ok w L l) (S : ok w.heap.size) (M : l.length ≤ 1000000) :
  Sl ok w' (.slice (sm w.heap.size) l.length l.length) l.length L.flatten ∧ FsAt ok w' L l :=
 ⟨⟨_, _, rfl, Nat.le_refl _, by omega, (fun h => by cases h), .inr ⟨_, _, rfl, S, n.D.cells⟩⟩, h.E n.E fun _ _ => by simp⟩
theorem FsAt.one {ok : Nat → Prop} {w : World} {c : LV} {f : Fml} (h : FAt ok w (.agg c.toArray) f) (T : c.length = 5) : FsAt ok w [c] [f] := FsAt.cons h T (FsAt.nil ok w)
theorem FsAt.two {ok : Nat → Prop} {w : World} {c d : LV} {f g : Fml} (h : FAt ok w (.agg c.toArray) f) (T : c.length = 5) (t : FAt ok w (.agg d.toArray) g) (C : d.length = 5) : FsAt ok w [c, d] [f, g] := FsAt.cons h T (FsAt.one t C)
theorem FsAt.ext {ok : Nat → Prop} {w w' : World} {L : List (LV)} {l : LF} (h : FsAt ok w L l) (k : Ext w w') : FsAt ok w' L l := h.E k fun _ _ => by simp
theorem flatten_at : ∀ (L : List (LV)) (k j : Nat) (c : LV) (v : Value), (∀ c ∈ L, c.length = 5) → L[k]? = some c → c[j]? = some v → L.flatten[k * 5 + j]? = some v
 | [], k, j, c, v, _, h, _ => by simp at h
 | d :: L, 0, j, c, v, h5, h, hv => by
  simp at h; subst h;rw [List.flatten_cons, Nat.zero_mul, Nat.zero_add, List.getElem?_append_left (List.getElem?_eq_some_iff.1 hv).1]; exact hv
 | d :: L, k + 1, j, c, v, h5, h, hv => by
  have C := h5 d O;rw [List.flatten_cons, List.getElem?_append_right U, C, show (k + 1) * 5 + j - 5 = k * 5 + j by omega];exact flatten_at L k j c v (fun c T => h5 c Dw) Dy hv
theorem Sl.fml {ok : Nat → Prop} {w : World} {a : Option Addr} {n cap k : Nat} {L : List (LV)} {c : LV} (h : Sl ok w (.slice a n cap) n L.flatten) (P : ∀ c ∈ L, c.length = 5) (e : L[k]? = some c) (G : k < n) :
  ∃ b o, a = some ⟨b, o, none⟩ ∧ ok b ∧ Cells w b (o + k * 5) c := by
 obtain ⟨f, Q, q, X, W, R, d⟩ := h;cases q;obtain ⟨b, o, rfl, S, T⟩ := d.resolve_left U;refine ⟨b, o, rfl, S, fun j v q => ?_⟩;have := T _ _ (flatten_at L k j c v P e q)
 rwa [← Nat.add_assoc] at this
def fresh (w : World) : Nat → Prop := fun b => w.heap.size ≤ b
theorem AX {cs : LV} (h : cs.length = 5) : ∃ X G E Z T, cs = [X, G, E, Z, T] := by
 match cs, h with
 | [X, G, E, Z, T], _ => exact ⟨_, _, _, _, _, rfl⟩
structure Tok where
 kind : Int
 text : LU
 loc : Nat
deriving DecidableEq
def tokC (k : Tok) : LV := [iV k.kind, AI k.text, iV (k.loc : Int)]
def toksC (l : List Tok) : LV := l.flatMap tokC
abbrev fail (e : Int) (p : Nat) : List PanicEntry := [{ v := .iface 209 (.agg #[iV e, iV (p : Int)]), recovered := false }]
structure St (w0 w : World) (s : Nat) (t : LU) (a : Nat) (ts : List Tok) : Prop where
 E : Keep [s] w0 w
 lt : s < w0.heap.size
 len : t.length ≤ 6000
 loc : a ≤ t.length
 cnt : ts.length ≤ 2000
 D : ∃ tv, Blk w s 213 [AI t, iV (a : Int), tv] ∧ w.ownsRow w0.heap.size 217 3 tv ts.length (toksC ts)
def Ay (p : UInt8 → Bool) (t : LU) (a : Nat) : Nat := a + ((t.drop a).takeWhile p).length
theorem whileB_step {p : UInt8 → Bool} {t : LU} {a : Nat} {c : UInt8} (h : t[a]? = some c) (v : p c = true) : Ay p t a = Ay p t (a + 1) := by
 obtain ⟨X, W⟩ := List.getElem?_eq_some_iff.1 h;unfold Ay;rw [List.drop_eq_getElem_cons X, W, List.takeWhile_cons_of_pos v];simp; omega
theorem whileB_stop {p : UInt8 → Bool} {t : LU} {a : Nat} {c : UInt8} (h : t[a]? = some c) (v : p c = false) : Ay p t a = a := by
 obtain ⟨X, W⟩ := List.getElem?_eq_some_iff.1 h;unfold Ay;rw [List.drop_eq_getElem_cons X, W, List.takeWhile_cons_of_neg (by simp [v])];simp
theorem whileB_end {p : UInt8 → Bool} {t : LU} {a : Nat} (h : t.length ≤ a) : Ay p t a = a := by
 unfold Ay;rw [List.drop_eq_nil_of_le h]; simp
theorem whileB_le {p : UInt8 → Bool} {t : LU} {a : Nat} (h : a ≤ t.length) : Ay p t a ≤ t.length := by
 have := (List.takeWhile_prefix p (l := t.drop a)).length_le;simp at this;unfold Ay; omega
theorem whileB_ge (p : UInt8 → Bool) (t : LU) (a : Nat) : a ≤ Ay p t a := by unfold Ay; omega
theorem while_ok {g : FuncId} {p : UInt8 → Bool} [AD Zp g] (z : Test g p) (w : World) (s a : Nat) (t : LU) (x y : Value) (S : Blk w s 213 [AI t, x, y]) (H : a ≤ t.length) (M : t.length ≤ 6000) :
  Fn Zp 243 [pt s, iV (a : Int), .func (.func g) #[] #[]] w fun v w' => v = iV (Ay p t a : Int) ∧ w' = w := by
 refine AG Tryz.func243 rfl Tryz.ntmps243 (go ?_);refine Ah (α := Nat) (fun k => [(0, pt s), (1, iV (k : Int)), (2, .func (.func g) #[] #[])]) (fun k Q => k ≤ t.length ∧ Ay p t k = Ay p t a ∧ Q = w) (fun k => t.length - k) a ⟨rfl, rfl, rfl, trivial⟩ ⟨H, rfl, rfl⟩ ?_;rintro k Q e ⟨P, u, rfl⟩;refine go ?_;by_cases d : k < t.length
 ·have b : t[k]? = some t[k] := List.getElem?_eq_getElem d;generalize t[k] = c at b;refine go ?_;refine Av (v1 := []) (v2 := []) (vs := [enc8 c]) rfl (z c _) rfl ?_;rintro v w' ⟨rfl, rfl⟩;cases hp : p c with
  | true =>
   refine go ?_;refine ⟨k + 1, ⟨rfl, ⟨rfl, ?_, rfl, trivial⟩, ⟨by omega, (whileB_step b hp).symm.trans u, rfl⟩⟩, by omega⟩;show iV ((k : Int) + 1) = _;rw [Int.natCast_add]; rfl
  | false =>
   refine go ?_;exact AA rfl ⟨by rw [← u, whileB_stop b hp]; rfl, rfl⟩
 ·refine go ?_;exact AA rfl ⟨by rw [← u, whileB_end U]; rfl, rfl⟩
theorem made_tok : (madeCells (Value.agg #[iV 0, AI [], iV 0]).cells (1 * 3)).toList = [iV 0, AI [], iV 0] := by
 kernel_rfl
theorem add_ok (c w : World) (s a n : Nat) (t : LU) (m : List Tok) (k : Int) (h : St c w s t a m) (h1 : a ≤ n) (h2 : n ≤ t.length) :
  FnP Zp 248 [pt s, iV k, iV (n : Int)] w (fun v w' => v = .tuple #[] ∧ m.length < 2000 ∧ St c w' s t n (m ++ [⟨k, (t.take n).drop a, a⟩])) (fun ch w' => m.length = 2000 ∧ ch = fail 2 a ∧ Keep [s] c w') := by
 obtain ⟨F, hs, hl, ha, hn, tv, S, f⟩ := h
 obtain ⟨r, D, rfl⟩ : ∃ r D, tv = .slice r m.length D := by
  rcases f.2 with ⟨rfl, E⟩ | ⟨g, a0, a1, rfl, _⟩
  ·exact ⟨none, 0, by rw [E]⟩
  ·exact ⟨_, _, rfl⟩
 refine A5 Tryz.func248 rfl Tryz.ntmps248 nlr Dk ?_;repeat refine nx rfl ?_
 (refine AJ (Ag rfl (AK rfl (AF rfl (AM rfl (Blk.cell Do Dn) ?_)))) <;> refine CD rfl ?_ <;> (refine W_eql rfl rfl (fun hc => ?_) (fun hc => ?_) <;> try omega))
 ·repeat refine nx rfl ?_
  (refine AJ (Ag rfl (AK rfl (AF rfl (AM rfl (Blk.cell Do Dn) ?_)))) <;> refine Bo Dn Dn ?_ <;> refine DO (DX rfl ?_))
  repeat refine nx rfl ?_
  exact Ai ⟨by omega, rfl, F⟩
 ·repeat first | refine nx rfl ?_ | refine nf rfl ?_
  refine AW (rd 0 4 (rd 5 16 (.alt 4 (.alt 21 (.alt 22 (.read 23 (.read 24 (.alt 25 .done .stop))) .stop) .stop) (.alt 21 (.alt 4 (.alt 22 (.read 23 (.read 24 (.alt 25 .done .stop))) .stop) .stop) .stop)))) Al Dk (fun wd N ed => ⟨fun W => W.cell? ⟨s, 0, none⟩ = some (AI t) ∧ W.cell? ⟨s, 1, none⟩ = some (iV (a : Int)), ?_, ?_⟩)
  ·exact ⟨(S.E N O).cell rfl, (S.E N O).cell rfl⟩
  have o := S.E N O;have a3 := Aa f N;have a4 : ∀ W : World, (W.cell? ⟨s, 0, none⟩ = some (AI t) ∧ W.cell? ⟨s, 1, none⟩ = some (iV (a : Int))) → W.cell? ⟨s, 0, none⟩ = some (AI t) := fun W h => h.1;have a2 : ∀ W : World, (W.cell? ⟨s, 0, none⟩ = some (AI t) ∧ W.cell? ⟨s, 1, none⟩ = some (iV (a : Int))) → W.cell? ⟨s, 1, none⟩ = some (iV (a : Int)) := fun W h => h.2;(refine D_R rfl rfl (fun W B => Ag rfl Z3) (D_R rfl rfl (fun W B => Ag rfl Z3) (D_R rfl rfl (fun W B => AK rfl Z3) (D_R rfl rfl (fun W B => AF rfl Z3) (D_R rfl rfl (fun W B => Af rfl Z3) (D_R rfl rfl (fun W B => Ag rfl Z3) (D_R rfl rfl (fun W B => AK rfl Z3) (D_R rfl rfl (fun W B => AF rfl Z3) (D_R rfl rfl (fun W B => AM rfl (a4 W B) Z3) (D_R rfl rfl (fun W B => Ag rfl Z3) (D_R rfl rfl (fun W B => AK rfl Z3) (D_R rfl rfl (fun W B => AF rfl Z3) (D_R rfl rfl (fun W B => AM rfl (a2 W B) Z3) (D_R rfl rfl (fun W B => Af rfl Z3) (D_R rfl rfl (fun W B => W_sslice_lh rfl rfl rfl U U Z3) (D_R rfl rfl (fun W B => Ag rfl Z3) (D_R rfl rfl (fun W B => AK rfl Z3) (D_R rfl rfl (fun W B => AF rfl Z3) (D_R rfl rfl (fun W B => AM rfl (a2 W B) Z3) ?_)))))))))))))))))) <;> (apply D_R rfl rfl; (intro W B; refine Bo Dn Dn ?_; exact Z3)))
  have a6 : tokC ⟨k, (t.take n).drop a, a⟩ = [iV k, AI ((t.take n).drop a), iV (a : Int)] := rfl;refine D_A rfl ?_ (D_E rfl ?_)
  ·refine AM rfl (o.cell rfl) ?_;refine wNl (⟨o.cell rfl, o.cell rfl⟩) ?_;refine D_E rfl ?_;refine AL (out := tokC ⟨k, (t.take n).drop a, a⟩) rfl U (by rw [made_tok]; rfl) (fun w2 b => ?_);have X := b.own (n := 1) (size := 3) rfl Dq (Nat.le_refl _);have s2 := b.size;have j := o.E b.E O;refine wNl (⟨j.cell rfl, j.cell rfl⟩) ?_;refine D_E rfl ?_;refine Ak (ok := AZ) rfl rfl (Aa a3 b.E) (AV X fun _ _ => trivial) U rfl rfl (by intro y K; simp [tokC] at K; rcases K with rfl | rfl | rfl <;> rfl) U U (by have := F.size; have := N.size; omega) (fun v3 w3 C => ?_);have H : ∀ x ∈ (Value.slice r m.length D).ownBlock.toList, c.heap.size ≤ x := fun x V => (Ab f (by simpa using V)).1;have q : s ∉ (Value.slice r m.length D).ownBlock.toList := fun V => by have := H s V; omega
   have z := (o.E b.E O).E C.E q;have Q : Keep [s] c w3 := ((F.ext N).ext b.E).trans C.E fun x V a5 => absurd (H x V) U;refine wNl (⟨z.cell rfl, z.cell rfl⟩) ?_;refine go ?_;refine D_E rfl ?_;have P := C.own
   obtain ⟨p, i, rfl⟩ : ∃ p i, v3 = .slice p (m.length + 1) i := by
    rcases P.2 with ⟨rfl, E⟩ | ⟨g, a0, a1, rfl, _⟩
    ·exact absurd E U
    ·exact ⟨_, _, rfl⟩
   exact EQ
  ·refine AL (out := tokC ⟨k, (t.take n).drop a, a⟩) rfl U (by rw [made_tok]; rfl) (fun w2 b => ?_);have X := b.own (n := 1) (size := 3) rfl Dq (Nat.le_refl _);have s2 := b.size;have j := o.E b.E O;refine wNl (⟨j.cell rfl, j.cell rfl⟩) ?_;refine D_E rfl ?_;refine AM rfl (j.cell rfl) ?_;refine wNl (⟨j.cell rfl, j.cell rfl⟩) ?_;refine D_E rfl ?_;refine Ak (ok := AZ) rfl rfl (Aa a3 b.E) (AV X fun _ _ => trivial) U rfl rfl (by intro y K; simp [tokC] at K; rcases K with rfl | rfl | rfl <;> rfl) U U (by have := F.size; have := N.size; omega) (fun v3 w3 C => ?_);have H : ∀ x ∈ (Value.slice r m.length D).ownBlock.toList, c.heap.size ≤ x := fun x V => (Ab f (by simpa using V)).1;have q : s ∉ (Value.slice r m.length D).ownBlock.toList := fun V => by have := H s V; omega
   have z := (o.E b.E O).E C.E q;have Q : Keep [s] c w3 := ((F.ext N).ext b.E).trans C.E fun x V a5 => absurd (H x V) U;refine wNl (⟨z.cell rfl, z.cell rfl⟩) ?_;refine go ?_;refine D_E rfl ?_;have P := C.own
   obtain ⟨p, i, rfl⟩ : ∃ p i, v3 = .slice p (m.length + 1) i := by
    rcases P.2 with ⟨rfl, E⟩ | ⟨g, a0, a1, rfl, _⟩
    ·exact absurd E U
    ·exact ⟨_, _, rfl⟩
   exact EQ
abbrev Res := Except (Int × Nat) (Nat × List Tok)
def FnS (g : FuncId) (args : LV) (w x : World) (s : Nat) (t : LU) (r : Res) : Prop :=
 FnP Zp g args w (fun v Z => v = .tuple #[] ∧ ∃ a m, r = .ok (a, m) ∧ St x Z s t a m) (fun q Z => ∃ e p, r = .error (e, p) ∧ q = fail e p ∧ Keep [s] x Z)
def addM (t : LU) (a : Nat) (m : List Tok) (k : Int) (n : Nat) : Res := if m.length = 2000 then .error (2, a) else .ok (n, m ++ [⟨k, (t.take n).drop a, a⟩])
theorem addS (x w : World) (s a n : Nat) (t : LU) (m : List Tok) (k : Int) (h : St x w s t a m) (X : a ≤ n) (W : n ≤ t.length) : FnS 248 [pt s, iV k, iV (n : Int)] w x s t (addM t a m k n) := by
 refine FnP.mono (add_ok x w s a n t m k h X W) ?_ ?_
 ·rintro v Z ⟨rfl, M, b⟩;exact ⟨rfl, _, _, by unfold addM; rw [if_neg U], b⟩
 ·rintro q Z ⟨M, rfl, b⟩;exact ⟨_, _, by unfold addM; rw [if_pos M], rfl, b⟩
def blankM (a : Nat) (m : List Tok) : Res := .ok (a + 1, m)
theorem blank_ok (b w : World) (s a : Nat) (t : LU) (m : List Tok) (h : St b w s t a m) (X : a < t.length) : FnS 192 [pt s] w b s t (blankM a m) := by
 obtain ⟨P, D, M, H, G, tv, S, f⟩ := h;refine A5 Tryz.func192 rfl Tryz.ntmps192 nlr Dk (go ?_);refine AN rfl rfl rfl S O (fun W A => ?_);have r := A.D;have N := Ad f A.E fun g z => by have := (Ab f z).1; simp; omega
 have c : Keep [s] b W := P.trans A.E fun x V _ => V;refine go ?_;refine BF rfl ⟨rfl, _, _, rfl, ⟨c, D, M, by omega, G, tv, ?_, N⟩⟩;have e : ((a : Int) + 1) = ((a + 1 : Nat) : Int) := by omega
 exact e ▸ r
def commM (t : LU) (a : Nat) (m : List Tok) : Res := .ok (Ay inComm t a, m)
theorem comment_ok (b w : World) (s a : Nat) (t : LU) (m : List Tok) (h : St b w s t a m) : FnS 193 [pt s] w b s t (commM t a m) := by
 obtain ⟨P, D, M, H, G, tv, S, f⟩ := h;refine A5 Tryz.func193 rfl Tryz.ntmps193 nlr Dk (go ?_);refine AC (while_ok comm_ok w s a t _ _ S H M) rfl ?_;rintro v Z ⟨rfl, rfl⟩;refine go ?_;refine AN rfl rfl rfl S O (fun W A => ?_);have r := A.D;have N := Ad f A.E fun g z => by have := (Ab f z).1; simp; omega
 have c : Keep [s] b W := P.trans A.E fun x V _ => V;refine go ?_;exact BF rfl ⟨rfl, _, _, rfl, ⟨c, D, M, whileB_le H, G, tv, r, N⟩⟩
def nameM (t : LU) (a : Nat) (m : List Tok) : Res := if 20 < Ay inName t (a + 1) - a then .error (40, a) else addM t a m 1 (Ay inName t (a + 1))
theorem scanName_ok (x w : World) (s a : Nat) (t : LU) (m : List Tok) (h : St x w s t a m) (X : a < t.length) : FnS 194 [pt s] w x s t (nameM t a m) := by
 obtain ⟨P, D, M, H, G, tv, S, c⟩ := id h;have b := whileB_ge inName t (a + 1);have f := whileB_le (p := inName) (t := t) (a := a + 1) U;refine A5 Tryz.func194 rfl Tryz.ntmps194 nlr Dk (go ?_);refine AC (while_ok name_ok w s (a + 1) t _ _ S U M) (by rw [Int.natCast_add]; rfl) ?_;rintro v Z ⟨rfl, rfl⟩;refine Ac (Af rfl ?_);repeat refine nx rfl ?_
 (refine AJ (Af rfl (Ag rfl (AK rfl (AF rfl (AM rfl (Blk.cell Do Dn) ?_))))) <;> refine W_sub rfl rfl Du ?_ <;> (refine W_gtr rfl rfl (fun T => ?_) (fun T => ?_) <;> try omega))
 ·repeat refine nx rfl ?_
  (refine AJ (Ag rfl (AK rfl (AF rfl (AM rfl (Blk.cell Do Dn) ?_)))) <;> refine Bo Dn Dn ?_ <;> refine DO (DX rfl ?_))
  repeat refine nx rfl ?_
  exact Ai ⟨_, _, by unfold nameM; rw [if_pos U], rfl, P⟩
 ·repeat first | refine nx rfl ?_ | refine nf rfl ?_
  refine AJ (Ag rfl (Af rfl ?_));have e : nameM t a m = addM t a m 1 (Ay inName t (a + 1)) := by unfold nameM; rw [if_neg U]
  rw [e];refine Ap (addS x Z s a _ t m 1 h U f) rfl ?_ ?_
  ·exact Ev
  ·exact Fh
def Bc (t : LU) (a : Nat) : Bool :=
 decide (4 < Ay A8 t a - a) || (decide (1 < Ay A8 t a - a) && decide ((t.getD a 0).toNat = 48)) ||
  decide (Ay A8 t a < t.length) && (isLet (t.getD (Ay A8 t a) 0) || decide ((t.getD (Ay A8 t a) 0).toNat = 95))
def numM (t : LU) (a : Nat) (m : List Tok) : Res := if Bc t a = true then .error (40, a) else addM t a m 2 (Ay A8 t a)
theorem getD_of {t : LU} {a : Nat} {c : UInt8} (h : t[a]? = some c) : t.getD a 0 = c := by simp [List.getD_eq_getElem?_getD, h]
theorem St.ext {x w w' : World} {s a : Nat} {t : LU} {m : List Tok} (h : St x w s t a m) (k : Ext w w') : St x w' s t a m := by
 obtain ⟨P, D, M, H, G, tv, S, f⟩ := h;exact ⟨P.ext k, D, M, H, G, tv, S.E k O, Aa f k⟩
theorem scanNumber_ok (x w : World) (s a : Nat) (t : LU) (m : List Tok) (h : St x w s t a m) (X : a < t.length) : FnS 195 [pt s] w x s t (numM t a m) := by
 obtain ⟨P, D, M, H, y, tv, S, A⟩ := id h;have r := whileB_ge A8 t a;have f := whileB_le (p := A8) (t := t) (a := a) U;have G : t[a]? = some t[a] := List.getElem?_eq_getElem X;generalize t[a] = c0 at G;refine A5 Tryz.func195 rfl Tryz.ntmps195 nlr Dk (go ?_);refine AC (while_ok dig_ok w s a t _ _ S U M) rfl ?_;rintro v Z ⟨rfl, rfl⟩;refine go ?_;refine AW (rd 0 18 .done) Al Dk (fun K N I => ⟨fun W => W = K, ?_, ?_⟩)
 ·rfl
 have j := S.E N O;have c := h.ext N;by_cases k : 4 < Ay A8 t a - a
 ·((apply D_R rfl rfl; (intro W B; subst B; refine Af rfl ?_; exact Z3)) <;> refine D_gtrT rfl rfl rfl rfl U ?_ <;> (apply D_R rfl rfl; (intro W B; subst B; refine AP rfl ?_; exact Z3)) <;> refine BI rfl rfl rfl rfl (BI rfl rfl rfl rfl (BI rfl rfl rfl rfl (D_R rfl rfl (fun W B => Ax rfl Z3) (D_R rfl rfl (fun W B => Ax rfl Z3) (D_R rfl rfl (fun W B => Ax rfl Z3) (D_R rfl rfl (fun W B => Ax rfl Z3) (D_R rfl rfl (fun W B => Ax rfl Z3) (D_R rfl rfl (fun W B => Ax rfl Z3) (D_R rfl rfl (fun W B => Ax rfl Z3) (D_R rfl rfl (fun W B => Ax rfl Z3) (D_R rfl rfl (fun W B => Ax rfl Z3) (D_R rfl rfl (fun W B => Ax rfl Z3) (BI rfl rfl rfl rfl ?_))))))))))))) <;> (apply D_R rfl rfl; (intro W B; subst B; (refine A4 rfl ?_; refine AP rfl ?_); exact Z3)) <;> refine Cb ?_)
  have o : Bc t a = true := by unfold Bc; simp [k]
  exact EN
 ·by_cases b : 1 < Ay A8 t a - a
  ·by_cases i : c0.toNat = 48
   ·((apply D_R rfl rfl; (intro W B; subst B; refine Af rfl ?_; exact Z3)) <;> refine D_gtrF rfl rfl rfl rfl U ?_ <;> (apply D_R rfl rfl; (intro W B; subst B; refine AP rfl ?_; exact Z3)) <;> (apply D_R rfl rfl; (intro W B; subst B; (refine AS rfl ?_; refine Af rfl ?_); exact Z3)) <;> refine D_gtrT rfl rfl rfl rfl U ?_ <;> (apply D_R rfl rfl; (intro W B; subst B; (refine AS rfl ?_; refine AP rfl ?_); exact Z3)) <;> (apply D_R rfl rfl; (intro W B; subst B; (refine AS rfl ?_; refine Ag rfl ?_); exact Z3)) <;> (apply D_R rfl rfl; (intro W B; subst B; (refine AS rfl ?_; refine AK rfl ?_); exact Z3)) <;> (apply D_R rfl rfl; (intro W B; subst B; (refine AS rfl ?_; refine AF rfl ?_); exact Z3)) <;> (apply D_R rfl rfl; (intro W B; subst B; (refine AS rfl ?_; refine AM rfl (Blk.cell Do Dn) ?_); exact Z3)) <;> (apply D_R rfl rfl; (intro W B; subst B; (refine AS rfl ?_; refine Ag rfl ?_); exact Z3)) <;> (apply D_R rfl rfl; (intro W B; subst B; (refine AS rfl ?_; refine AK rfl ?_); exact Z3)) <;> (apply D_R rfl rfl; (intro W B; subst B; (refine AS rfl ?_; refine AF rfl ?_); exact Z3)) <;> (apply D_R rfl rfl; (intro W B; subst B; (refine AS rfl ?_; refine AM rfl (Blk.cell Do Dn) ?_); exact Z3)) <;> (apply D_R rfl rfl; (intro W B; subst B; (refine AS rfl ?_; refine W_sidx rfl rfl Do ?_); exact Z3)) <;> refine D_eqlT rfl rfl rfl rfl U ?_ <;> (apply D_R rfl rfl; (intro W B; subst B; (refine AS rfl ?_; (refine A4 rfl ?_; refine AP rfl ?_)); exact Z3)) <;> (apply D_R rfl rfl; (intro W B; subst B; (refine Au rfl ?_; refine AP rfl ?_); exact Z3)) <;> refine Cb ?_)
    have o : Bc t a = true := by unfold Bc; rw [getD_of G]; simp [b, i]
    exact EN
   ·have z : (decide (1 < Ay A8 t a - a) && decide ((t.getD a 0).toNat = 48)) = false := by rw [getD_of G]; simp [i]
    refine go ?_;by_cases l : Ay A8 t a < t.length
    ·have g : t[Ay A8 t a]? = some t[Ay A8 t a] := List.getElem?_eq_getElem l;generalize t[Ay A8 t a] = c1 at g;have n := getD_of g;refine go ?_;refine AC (let_ok c1 _) rfl ?_;rintro v L ⟨rfl, rfl⟩;cases hlet : isLet c1 with
     | true =>
      have o : Bc t a = true := by unfold Bc; rw [n]; simp [l, hlet]
      refine AS rfl (AP rfl (Ax rfl (Ax rfl (Ax rfl (Ax rfl (Ax rfl (Ax rfl (Ax rfl (AS rfl (A4 rfl (AP rfl (A4 rfl (AP rfl ?_)))))))))))));exact EN
     | false =>
      by_cases d : c1.toNat = 95
      ·have o : Bc t a = true := by unfold Bc; rw [n]; simp [l, d]
       (refine AS rfl (AP rfl (AS rfl (Ag rfl (AS rfl (AK rfl (AS rfl (AF rfl (AS rfl (AM rfl (Blk.cell Do Dn) ?_))))))))) <;> refine AS rfl (Af rfl (AS rfl (W_sidx rfl rfl Do ?_))) <;> refine AS rfl (W_eqlT rfl rfl U (AS rfl (Au rfl (AP rfl (A4 rfl (AP rfl ?_)))))))
       exact EN
      ·have o : Bc t a = false := by
        unfold Bc;rw [n, z, hlet, decide_eq_false k, decide_eq_false d];simp
       refine go ?_;have e : numM t a m = addM t a m 2 (Ay A8 t a) := by unfold numM; rw [if_neg]; simp only [o]; simp
       rw [e];refine Ap (addS x _ s a _ t m 2 c U f) rfl ?_ ?_
       ·exact Ev
       ·exact Fh
    ·have o : Bc t a = false := by
      unfold Bc;rw [z, decide_eq_false k, decide_eq_false l];simp
     refine go ?_;have e : numM t a m = addM t a m 2 (Ay A8 t a) := by unfold numM; rw [if_neg]; simp only [o]; simp
     rw [e];refine Ap (addS x _ s a _ t m 2 c U f) rfl ?_ ?_
     ·exact Ev
     ·exact Fh
  ·have z : (decide (1 < Ay A8 t a - a) && decide ((t.getD a 0).toNat = 48)) = false := by simp [b]
   refine go ?_;by_cases l : Ay A8 t a < t.length
   ·have g : t[Ay A8 t a]? = some t[Ay A8 t a] := List.getElem?_eq_getElem l;generalize t[Ay A8 t a] = c1 at g;have n := getD_of g;refine go ?_;refine AC (let_ok c1 _) rfl ?_;rintro v L ⟨rfl, rfl⟩;cases hlet : isLet c1 with
    | true =>
     have o : Bc t a = true := by unfold Bc; rw [n]; simp [l, hlet]
     refine AS rfl (AP rfl (Ax rfl (Ax rfl (Ax rfl (Ax rfl (Ax rfl (Ax rfl (Ax rfl (AS rfl (A4 rfl (AP rfl (A4 rfl (AP rfl ?_)))))))))))));exact EN
    | false =>
     by_cases d : c1.toNat = 95
     ·have o : Bc t a = true := by unfold Bc; rw [n]; simp [l, d]
      (refine AS rfl (AP rfl (AS rfl (Ag rfl (AS rfl (AK rfl (AS rfl (AF rfl (AS rfl (AM rfl (Blk.cell Do Dn) ?_))))))))) <;> refine AS rfl (Af rfl (AS rfl (W_sidx rfl rfl Do ?_))) <;> refine AS rfl (W_eqlT rfl rfl U (AS rfl (Au rfl (AP rfl (A4 rfl (AP rfl ?_)))))))
      exact EN
     ·have o : Bc t a = false := by
       unfold Bc;rw [n, z, hlet, decide_eq_false k, decide_eq_false d];simp
      refine go ?_;have e : numM t a m = addM t a m 2 (Ay A8 t a) := by unfold numM; rw [if_neg]; simp only [o]; simp
      rw [e];refine Ap (addS x _ s a _ t m 2 c U f) rfl ?_ ?_
      ·exact Ev
      ·exact Fh
   ·have o : Bc t a = false := by
     unfold Bc;rw [z, decide_eq_false k, decide_eq_false l];simp
    refine go ?_;have e : numM t a m = addM t a m 2 (Ay A8 t a) := by unfold numM; rw [if_neg]; simp only [o]; simp
    rw [e];refine Ap (addS x _ s a _ t m 2 c U f) rfl ?_ ?_
    ·exact Ev
    ·exact Fh
def symsL : List (LU) := [[45, 62], [33, 61], [40], [41], [123], [125], [91], [93], [44], [59], [58], [61], [33], [38], [124]]
def spansL : List (Nat × Nat × Nat) := [(32, 32, 0), (9, 10, 0), (13, 13, 0), (37, 37, 1), (97, 122, 2), (65, 90, 2), (48, 57, 3), (40, 41, 4), (123, 125, 4), (91, 91, 4), (93, 93, 4), (44, 45, 4), (58, 59, 4), (61, 61, 4), (33, 33, 4), (38, 38, 4)]
def symC : LV := symsL.map AI
def spanC1 (p : Nat × Nat × Nat) : LV := [.int .u8 (p.1 : Int), .int .u8 (p.2.1 : Int), iV (p.2.2 : Int)]
def spanC : LV := spansL.flatMap spanC1
structure GV (w : World) : Prop where
 spans : Cells w 3 0 spanC
 syms : Cells w 4 0 symC
 size : 10 ≤ w.heap.size
theorem GV.E {X : List Nat} {w w' : World} (h : GV w) (k : Keep X w w') (s : 3 ∉ X) (a : 4 ∉ X) : GV w' := ⟨h.spans.E k s, h.syms.E k a, Nat.le_trans h.size k.size⟩
theorem GV.ext {w w' : World} (h : GV w) (k : Ext w w') : GV w' := h.E k O O
def symM (t : LU) (a : Nat) (m : List Tok) : Res :=
 match symsL.find? (hasPre (t.drop a)) with
 | some y => addM t a m 3 (a + y.length)
 | none => .error (40, a)
theorem find_step {α : Type} {p : α → Bool} {l : List α} {k : Nat} {y : α} (h : l[k]? = some y) : (l.drop k).find? p = if p y = true then some y else (l.drop (k + 1)).find? p := by
 obtain ⟨X, W⟩ := List.getElem?_eq_some_iff.1 h;rw [List.drop_eq_getElem_cons X, W, List.find?_cons];cases p y <;> rfl
theorem symbol_ok (x w : World) (s a : Nat) (t : LU) (m : List Tok) (h : St x w s t a m) (X : a < t.length) (D : GV x) (c : 10 ≤ s) : FnS 196 [pt s] w x s t (symM t a m) := by
 have j : GV w := D.E h.E Dl Dl;refine A5 Tryz.func196 rfl Tryz.ntmps196 nlr Dk ?_;repeat refine nx rfl ?_
 refine AJ (AR rfl rfl j.syms (Af rfl (go ?_)));refine Ah (α := Nat) (fun k => [(0, pt s), (4, .agg symC.toArray), (5, iV (k : Int))]) (fun k Q => k ≤ 15 ∧ Ext w Q ∧ symsL.find? (hasPre (t.drop a)) = (symsL.drop k).find? (hasPre (t.drop a))) (fun k => 15 - k) 0 ⟨rfl, rfl, rfl, trivial⟩ ⟨by omega, Ext.refl _, rfl⟩ ?_;rintro k Q g ⟨P, i, I⟩;have b := h.ext i;repeat refine nx rfl ?_
 by_cases d : k < 15
 ·have K : symsL[k]? = some symsL[k] := List.getElem?_eq_getElem d;generalize symsL[k] = y at K;have o : symC[k]? = some (AI y) := by unfold symC; rw [List.getElem?_map, K]; rfl
  rw [find_step K] at I;refine AJ (W_lssT rfl rfl U ?_);repeat refine nx rfl ?_
  refine AJ (W_vidx1 rfl rfl d o (Ac (CK rfl (go ?_))));refine AW (rd 0 10 (.alt 10 .done .stop)) Al Dk (fun p N r => ⟨fun W => W = p, ?_, ?_⟩)
  ·rfl
  obtain ⟨F, n, M, H, G, tv, S, f⟩ := id b;have z := S.E N O;refine go ?_;refine D_E rfl ?_;refine AC (pre_ok _ _ _) rfl ?_;rintro v L ⟨rfl, rfl⟩;refine AH ⟨fun W => W = _, fun _ h => h, rfl, ?_⟩;refine go ?_;cases hp : hasPre (t.drop a) y with
  | true =>
   rw [hp, if_pos rfl] at I;have l := ((hasPre_iff _ _).1 hp).length_le;simp at l;refine go ?_;have e : symM t a m = addM t a m 3 (a + y.length) := by unfold symM; rw [I]
   rw [e];refine Ap (addS x _ s a (a + y.length) t m 3 (b.ext N) U U) (by rw [Int.natCast_add]; rfl) ?_ ?_
   ·rintro v L ⟨rfl, u⟩;refine go ?_;exact fin_ret0 rfl ⟨rfl, u⟩
   ·exact Fh
  | false =>
   rw [hp, if_neg O] at I;repeat first | refine nx rfl ?_ | refine nf rfl ?_
   (refine AJ (W_add rfl rfl Du ?_) <;> refine Af rfl ?_)
   repeat refine nx rfl ?_
   refine ⟨k + 1, ⟨rfl, ⟨rfl, rfl, ?_, trivial⟩, ⟨by omega, i.trans N, I⟩⟩, by omega⟩;show iV ((k : Int) + 1) = _;rw [Int.natCast_add]; rfl
 ·obtain ⟨F, n, M, H, G, tv, S, f⟩ := id b;refine AJ (W_lssF rfl rfl U ?_);repeat first | refine nx rfl ?_ | refine nf rfl ?_
  (refine AJ (Ag rfl (AK rfl (AF rfl (AM rfl (Blk.cell Do Dn) ?_)))) <;> refine Bo Dn Dn ?_ <;> refine DO (DX rfl ?_))
  repeat refine nx rfl ?_
  refine Ai ⟨_, _, ?_, rfl, F⟩;unfold symM;have C : symsL.drop k = [] := List.drop_eq_nil_of_le (by show 15 ≤ k; omega);rw [I, C];rfl
end
end Go.Proofs.YtohodbnnhlddpaaGreatDoor
