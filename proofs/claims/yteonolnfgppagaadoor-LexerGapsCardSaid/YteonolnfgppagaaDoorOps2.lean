/- Rules for slices of the call's own: append, make, copy; for whole structs; for function values. Conditions: none. -/
import Derived.Test.YteonolnfgppagaaDoorOps
import Derived.Laws.OwnMore
import Derived.Laws.CopyOwn
namespace Go.Proofs.YteonolnfgppagaaDoor
open Go.RowKit
attribute [local semireducible] WC WOps thenQ blockQ scopeQ finQ finD stepP

variable {P : Program} {all : Array Oper} {Z : Fr → DS → List PanicEntry → World → Prop} {K : Fr → DS → World → Prop} {rest : List Oper} {f : Fr} {ds : DS} {w : World}
  {d : Nat} {ty : TypeId} {pos : String} {af : Array Edge}

/-- cells that can be stored -/
def oneC (cs : List Value) : Prop := ∀ u ∈ cs, u.oneCell' = true
theorem oneC_cells8 (l : List UInt8) : oneC (cells8 l) := by
  intro u hu
  obtain ⟨c, _, rfl⟩ := List.mem_map.1 hu
  rfl
theorem oneC_append {a b : List Value} (h : oneC a) (k : oneC b) : oneC (a ++ b) := fun u hu => by
  rcases List.mem_append.1 hu with h' | h'
  · exact h u h'
  · exact k u h'

/-- what an append leaves -/
structure Apd (w w' : World) (B : Nat) (e size : Nat) (v v' : Value) (n : Nat) (xs : List Value) : Prop where
  own : w'.ownsRow B e size v' n xs
  keep : Keep v.ownBlock.toList w w'
  blk : v'.ownBlock = v.ownBlock ∨ v'.ownBlock = some w.heap.size
  some : n ≠ 0 → v'.ownBlock ≠ none

theorem own_some {w : World} {B e size : Nat} {v : Value} {n : Nat} {xs : List Value} (h : w.ownsRow B e size v n xs) (hn : n ≠ 0) : v.ownBlock ≠ none := by
  rcases h.2 with ⟨_, h0⟩ | ⟨g, _, _, rfl, _⟩
  · exact absurd h0 hn
  · simp [Value.ownBlock]

theorem run_append_sl {T e size bytes : Nat} {z : Value} (hT : SlT P T e size bytes z) (hsz : 0 < size) (hzs : z.cells.size = size) (t : TypeId) {B : Nat} {v sv : Value} {n m : Nat} {xs cs : List Value} {ok : Nat → Prop}
    (hown : w.ownsRow B e size v n xs) (hs : Sl ok w sv m cs) (hl : cs.length = m * size) (h1 : oneC cs) (hm : n + m ≤ maxLen) (hb : (n + m) * bytes ≤ 140737488355328) (hB : B ≤ w.heap.size) :
    ∃ v' w', (Builtin.append_ #[T, T] t #[v, sv]).run P w = .ok v' w' ∧ Apd w w' B e size v v' (n + m) (xs ++ cs) := by
  obtain ⟨i, hi, hz, hsi, hby⟩ := hT.out
  obtain ⟨a, cap, rfl, hmc, _, hnil, hcells⟩ := hs
  cases a with
  | none =>
    have hc0 := hnil rfl
    subst hc0
    obtain rfl : m = 0 := by omega
    obtain rfl : cs = [] := List.eq_nil_of_length_eq_zero (by simpa using hl)
    have hr := run_append_owned_none (P := P) w B T t e i size hT.und hi v n xs hown
    exact ⟨v, w, hr, by simpa using hown, Keep.refl _ _, .inl rfl, fun hn => own_some hown (by omega)⟩
  | some ad =>
    have hnews : ∀ j u, cs[j]? = some u → w.cell? (ad.add j) = some u := by
      intro j u hu
      rcases hcells with h0 | ⟨b, off, he, _, hc⟩
      · subst h0
        have : cs = [] := List.eq_nil_of_length_eq_zero (by simpa using hl)
        rw [this] at hu; simp at hu
      · cases he
        rw [Addr.add_lit]
        exact hc j u hu
    obtain ⟨v', w', hr, ho, hg, hn'⟩ := run_append_own (P := P) w B T t e i z size bytes hT.und hi hz hsi hby hzs hsz v n xs hown ad m cap cs hl hnews h1 hm hb hB
    refine ⟨v', w', hr, ho, Keep.of_grown hg, ?_, fun hn => own_some ho hn⟩
    have hm' : ((n + m : Nat) : Int) ≤ 9223372036854775807 := by simp only [maxLen] at hm; omega
    rcases hown.2 with ⟨rfl, rfl⟩ | ⟨g, cp, cur, rfl, _, hgg, hnc, _, hcs, htake⟩
    · by_cases h0 : m = 0
      · have := hn'.2 ⟨rfl, h0⟩
        subst this
        exact .inl rfl
      · have hx := run_append_nil (P := P) w T t e i z hT.und hi hz ad m cap cs (by rw [hsi]; exact hl) hnews (by omega) (by simpa using hm') (by rw [hby]; have := hb; simp only [Nat.zero_add] at this; omega)
        rw [hr] at hx
        cases hx
        exact .inr rfl
    · by_cases hroom : n + m ≤ cp
      · have hx := run_append_room (P := P) w T t e i hT.und hi g n cp cur hgg ad m cap cs (by rw [hsi]; exact hl) hnews h1 hroom (by rw [hl, hcs, hsi, ← Nat.add_mul]; exact Nat.mul_le_mul_right _ hroom)
        rw [hr] at hx
        cases hx
        exact .inl rfl
      · have hx := run_append_grow (P := P) w T t e i z hT.und hi hz ⟨g, 0, none⟩ n cp xs (by rw [hsi]; exact hown.1) (fun j u hu => hown.cells (g := g) rfl j u hu) ad m cap cs (by rw [hsi]; exact hl) hnews (by omega) hm' (by rw [hby]; exact growslice_fits (by omega) hb)
        rw [hr] at hx
        cases hx
        exact .inr rfl

theorem W_append {T e size bytes : Nat} {z : Value} {s x : Operand} {B n m : Nat} {v sv : Value} {xs cs : List Value} {ok : Nat → Prop} [hT : SlT P T e size bytes z] (hv : ev f s = v) (hx : ev f x = sv)
    (hown : w.ownsRow B e size v n xs) (hs : Sl ok w sv m cs) (hsz : 0 < size) (hzs : z.cells.size = size) (hl : cs.length = m * size) (h1 : oneC cs) (hm : n + m ≤ 9223372036854775807) (hb : (n + m) * bytes ≤ 140737488355328) (hB : B ≤ w.heap.size)
    (h : ∀ v' w', Apd w w' B e size v v' (n + m) (xs ++ cs) → WOps P all Z K rest (upd f d v') ds w') :
    WOps P all Z K (⟨some d, .call ⟨.builtin .append, #[s, x], #[T, T]⟩, ty, pos, af, none⟩ :: rest) f ds w := by
  obtain ⟨v', w', hr, ha⟩ := run_append_sl (P := P) hT hsz hzs ty hown hs hl h1 (by unfold maxLen; omega) hb hB
  refine W_val (v := v') (w' := w') rfl ?_ (h v' w' ha)
  simp [execOp, resolve, invoke, builtin, hv, hx, hr]

/-- make([]T, n) -/
theorem W_make {T e size bytes : Nat} {z : Value} {l c : Operand} {k k' : IntKind} {n : Nat} {N M : Int} [hT : SlT P T e size bytes z] (hl : ev f l = .int k N) (hc : ev f c = .int k' M) (hN : N = (n : Int)) (hM : M = (n : Int)) (hb : bytes * n ≤ 281474976710656) (hm : n ≤ maxLen)
    (h : ∀ w', New w w' e (madeCells z.cells (n * size)).toList → WOps P all Z K rest (upd f d (.slice (some ⟨w.heap.size, 0, none⟩) n n)) ds w') :
    WOps P all Z K (⟨some d, .makeSlice T l c, ty, pos, af, none⟩ :: rest) f ds w := by
  subst hN
  subst hM
  obtain ⟨i, hi, hz, hsi, hby⟩ := hT.out
  have hm' : (n : Int) ≤ 9223372036854775807 := by simp only [maxLen] at hm; omega
  have hb' : (i.bytes : Int) * (n : Int) ≤ 281474976710656 := by
    rw [hby]
    have h : ((bytes * n : Nat) : Int) ≤ 281474976710656 := by omega
    rwa [Int.natCast_mul] at h
  have hr := run_make (P := P) w T e i z hT.und hi hz k k' n n (by omega) (Int.le_refl _) hb' hm'
  refine W_val (v := .slice (some ⟨w.heap.size, 0, none⟩) n n) (w' := w.alloc (.cells (madeCells z.cells (n * size)).toList.toArray e)) rfl ?_ (h _ (New.mk_alloc w _ e))
  simp [execOp, hl, hc, hr, hsi]

theorem madeCells_one (v : Value) (hv : v.cells = #[v]) (n : Nat) : (madeCells v.cells (n * 1)).toList = List.replicate n v := by
  rw [hv, Nat.mul_one, toList_madeCells_one]

/-- copy into block g from off on: cs is what is copied -/
theorem W_copy {T T2 e bytes bt : Nat} {z : Value} {s x : Operand} {dp sp : Option Addr} {dLen dCap sLen sCap g off : Nat} {L cs : List Value} [hT : SlT P T e 1 bytes z] (hd : ev f s = .slice dp dLen dCap) (hx : ev f x = .slice sp sLen sCap)
    (hb : Blk w g bt L) (hn : cs.length = Nat.min sLen dLen) (hpos : 0 < cs.length → dp = some ⟨g, off, none⟩ ∧ ∃ b o, sp = some ⟨b, o, none⟩ ∧ Cells w b o cs) (hfit : off + cs.length ≤ L.length) (h1 : oneC cs)
    (h : ∀ w', Put w w' g bt (splice L off cs) → WOps P all Z K rest (upd f d (.int .i64 (cs.length : Int))) ds w') :
    WOps P all Z K (⟨some d, .call ⟨.builtin .copy, #[s, x], #[T, T2]⟩, ty, pos, af, none⟩ :: rest) f ds w := by
  obtain ⟨i, hi, _, hsi, _⟩ := hT.out
  have hsz : (P.info? e).map (·.size) = some 1 := by simp [hi, hsi]
  by_cases h0 : cs.length = 0
  · obtain rfl : cs = [] := List.eq_nil_of_length_eq_zero h0
    have hput : Put w w g bt (splice L off []) := ⟨Keep.refl _ _, rfl, by simpa [splice] using hb⟩
    have hmin : Nat.min sLen dLen = 0 := by simpa using hn.symm
    refine W_val (v := .int .i64 0) (w' := w) rfl ?_ (by simpa [putF] using h w hput)
    simp [execOp, resolve, invoke, builtin, hd, hx, Builtin.copy_, run_underlying hT.und, Builtin.lenOf, sizeOf, typeInfo, hi, hsi, hmin, goInt]
    cases sp <;> cases dp <;> simp [Builtin.firstCells, loadCells, loadCellsFrom, storeCells]
  · obtain ⟨rfl, b, o, rfl, hc⟩ := hpos (by omega)
    have hg : w.heap[g]? = some (.cells L.toArray bt (0, 0)) := hb
    have hr := run_copy_row (P := P) w T T2 ty e g off dLen dCap ⟨b, o, none⟩ sLen sCap L.toArray bt cs hT.und hsz hg hn (fun j v hj => by rw [Addr.add_lit]; exact hc j v hj) (by simpa using hfit) h1
    refine W_val (v := .int .i64 cs.length) (w' := w.setRow g (splice L off cs).toArray) rfl ?_ (h _ ⟨⟨rfl, rfl, rfl, by simp [World.setRow], fun k _ hk => setRow_other w g k _ (by simpa using hk)⟩, by simp [World.setRow], setRow_heap w g _ _ bt _ hg⟩)
    simp [execOp, resolve, invoke, builtin, hd, hx, hr, goInt, splice]

/-- copy of a string's bytes -/
theorem W_copy_str {T T2 e bytes bt : Nat} {z : Value} {s x : Operand} {dp : Option Addr} {dLen dCap g off : Nat} {L : List Value} {str : List UInt8} [hT : SlT P T e 1 bytes z] (hd : ev f s = .slice dp dLen dCap) (hx : ev f x = strV str)
    (hb : Blk w g bt L) (hn : str.length = dLen) (hpos : 0 < dLen → dp = some ⟨g, off, none⟩) (hfit : off + dLen ≤ L.length)
    (h : ∀ w', Put w w' g bt (splice L off (cells8 str)) → WOps P all Z K rest (upd f d (.int .i64 (dLen : Int))) ds w') :
    WOps P all Z K (⟨some d, .call ⟨.builtin .copy, #[s, x], #[T, T2]⟩, ty, pos, af, none⟩ :: rest) f ds w := by
  obtain ⟨i, hi, _, hsi, _⟩ := hT.out
  subst hn
  have hsz : (⟨str.toArray⟩ : ByteArray).size = str.length := rfl
  have hmin : Nat.min str.length str.length = str.length := Nat.min_self _
  by_cases h0 : str.length = 0
  · obtain rfl : str = [] := List.eq_nil_of_length_eq_zero h0
    have hput : Put w w g bt (splice L off (cells8 [])) := ⟨Keep.refl _ _, rfl, by simpa [splice, cells8] using hb⟩
    refine W_val (v := .int .i64 0) (w' := w) rfl ?_ (by simpa [putF] using h w hput)
    simp [execOp, resolve, invoke, builtin, hd, hx, Builtin.copy_, run_underlying hT.und, Builtin.lenOf, sizeOf, typeInfo, hi, goInt, Builtin.firstCells]
    cases dp <;> simp [storeCells]
  · have hdp := hpos (by omega)
    subst hdp
    have hg : w.heap[g]? = some (.cells L.toArray bt (0, 0)) := hb
    have hst := run_storeCells_at P g off bt (cells8 str) 0 L.toArray w hg (by simpa [cells8_length] using hfit) (oneC_cells8 str)
    simp only [Nat.add_zero] at hst
    refine W_val (v := .int .i64 str.length) (w' := w.setRow g (splice L off (cells8 str)).toArray) rfl ?_ (h _ ⟨⟨rfl, rfl, rfl, by simp [World.setRow], fun k _ hk => setRow_other w g k _ (by simpa using hk)⟩, by simp [World.setRow], setRow_heap w g _ _ bt _ hg⟩)
    have htk : List.take str.length (List.map (fun b : UInt8 => Value.int .u8 (b.toNat : Int)) str) = cells8 str := List.take_of_length_le (by simp)
    simp [execOp, resolve, invoke, builtin, hd, hx, Builtin.copy_, run_underlying hT.und, Builtin.lenOf, sizeOf, typeInfo, hi, goInt, Builtin.firstCells, hsz]
    rw [htk, hst]
    simp [splice]

theorem W_store_agg {T bt n : Nat} {a x : Operand} {b o : Nat} {cs L : List Value} [hT : SizeT P T n] (ha : ev f a = .pointer (some ⟨b, o, none⟩)) (hx : ev f x = .agg cs.toArray) (hn : cs.length = n) (h1 : oneC cs)
    (hb : Blk w b bt L) (ho : o + n ≤ L.length) (h : ∀ w', Put w w' b bt (splice L o cs) → WOps P all Z K rest f ds w') :
    WOps P all Z K (⟨none, .store T a x, ty, pos, af, none⟩ :: rest) f ds w := by
  obtain ⟨i, hi, hs⟩ := hT.out
  have hg : w.heap[b]? = some (.cells L.toArray bt (0, 0)) := hb
  have hst := run_storeCells_at P b o bt cs 0 L.toArray w hg (by simp; omega) h1
  simp only [Nat.add_zero] at hst
  refine W_skp (w' := w.setRow b (splice L o cs).toArray) rfl ?_ (h _ ⟨⟨rfl, rfl, rfl, by simp [World.setRow], fun k _ hk => setRow_other w b k _ (by simpa using hk)⟩, by simp [World.setRow], setRow_heap w b _ _ bt _ hg⟩)
  simp only [execOp, ha, hx, Instr.storeAt, Instr.sureAddr, storeVar, Sem.run_bind, Sem.run_pure, Result.andThen_ok, sizeOf, typeInfo, program, Value.cells]
  simp [Sem.run, hi, hs, hn]
  rw [hst]
  simp [splice]

/-! ### Whole structs and literals of slices -/
/-- the fields of a struct: place and size; and its zero cells -/
class StT (P : Program) (T : TypeId) (places : outParam (List (Nat × Nat))) (zero : outParam (List Value)) : Prop where
  out : ∃ fs i z, P.underlying T = some (.struct fs) ∧ P.info? T = some i ∧ i.zero = some z ∧ z.cells = zero.toArray ∧
    ∀ w, (fs.mapM (m := Sem) fun f => do pure (f.offset, ← sizeOf f.type)).run P w = .ok places.toArray w

/-- cells with parts put in -/
def fillL (place : Nat → Option (Nat × Nat)) (cells : List Value) : List (Nat × Value) → Option (List Value)
  | [] => some cells
  | (i, v) :: rest =>
    match place i with
    | none => none
    | some (off, size) => if v.cells.size = size ∧ off + size ≤ cells.length then fillL place (splice cells off v.cells.toList) rest else none

theorem foldl_set (cs : List Value) : ∀ (k off : Nat) (cells : Array Value), off + k + cs.length ≤ cells.size →
    (cs.zipIdx k).foldl (fun (a : Array Value) (p : Value × Nat) => a.setIfInBounds (off + p.2) p.1) cells = (splice cells.toList (off + k) cs).toArray := by
  induction cs with
  | nil => intro k off cells _; simp [splice]
  | cons c cs ih =>
    intro k off cells h
    simp only [List.zipIdx_cons, List.foldl_cons]
    simp only [List.length_cons] at h
    rw [ih (k + 1) off _ (by simp; omega)]
    congr 1
    simp only [splice, Array.toList_setIfInBounds, List.length_cons]
    have e : off + (k + 1) = off + k + 1 := by omega
    rw [e, List.take_set, List.drop_set, if_pos (by omega)]
    rw [List.take_succ_eq_append_getElem (by simp; omega)]
    rw [List.set_append_right _ _ (by simp; omega)]
    have e3 : off + k - min (off + k) cells.size = 0 := by omega
    have e4 : off + k + 1 + cs.length = off + k + (cs.length + 1) := by omega
    simp [e3, e4]

theorem fill_of_fillL (place : Nat → Option (Nat × Nat)) : ∀ (parts : List (Nat × Value)) (cells out : List Value), fillL place cells parts = some out → Instr.fill place cells.toArray parts = some out.toArray
  | [], cells, out, h => by simp only [fillL, Option.some.injEq] at h; subst h; rfl
  | (i, v) :: rest, cells, out, h => by
    simp only [fillL] at h
    simp only [Instr.fill]
    cases hp : place i with
    | none => simp [hp] at h
    | some p =>
      obtain ⟨off, size⟩ := p
      simp only [hp] at h
      split at h
      · rename_i hc
        obtain ⟨h1, h2⟩ := hc
        have e1 : (v.cells.size ≠ size || decide (off + v.cells.size > cells.toArray.size)) = false := by
          simp [h1]; omega
        simp only [e1, Bool.false_eq_true, if_false]
        have hf : v.cells.zipIdx.foldl (fun cs (x : Value × Nat) => match x with | (c, j) => cs.setIfInBounds (off + j) c) cells.toArray = (splice cells off v.cells.toList).toArray := by
          rw [← Array.foldl_toList]
          have := foldl_set v.cells.toList 0 off cells.toArray (by simp; omega)
          simpa using this
        rw [hf]
        exact fill_of_fillL place rest _ _ h
      · cases h

def evP (f : Fr) : List (Nat × Operand) → List (Nat × Value)
  | [] => []
  | (i, x) :: l => (i, ev f x) :: evP f l
theorem evP_map (f : Fr) : ∀ l : List (Nat × Operand), evP f l = l.map fun p => (p.1, ev f p.2)
  | [] => rfl
  | (i, x) :: l => by simp [evP, evP_map f l]

theorem W_build {T : TypeId} {parts : List (Nat × Operand)} {vs : List (Nat × Value)} {places : List (Nat × Nat)} {zero out : List Value} [hT : StT P T places zero] (hv : evP f parts = vs) (ho : fillL (fun i => places[i]?) zero vs = some out)
    (h : WOps P all Z K rest (upd f d (.agg out.toArray)) ds w) : WOps P all Z K (⟨some d, .build T parts.toArray, ty, pos, af, none⟩ :: rest) f ds w := by
  obtain ⟨fs, i, z, h1, h2, h3, h4, h5⟩ := hT.out
  refine W_val rfl ?_ h
  rw [evP_map] at hv
  have hfill := fill_of_fillL _ _ _ _ ho
  have hz : (zeroValue T).run P w = .ok z w := by simp [zeroValue, typeInfo, h2, h3]
  have e : Array.map (fun (x : Nat × Operand) => match x with | (i, x) => (i, ev f x)) parts.toArray = vs.toArray := by
    rw [← hv]; simp
  simp only [execOp, e, Instr.build, Sem.run_bind, hz, Result.andThen_ok, run_underlying h1, h4]
  rw [h5 w]
  simp only [Result.andThen_ok]
  have e2 : (fun i : Nat => places.toArray[i]?) = fun i => places[i]? := by funext i; simp
  rw [e2, hfill]
  simp

theorem W_buildArr {T len e size : Nat} {parts : List (Nat × Operand)} {vs : List (Nat × Value)} {zero out : List Value} [hT : ArrT P T len e size] [hZ : ZeroT P T zero] (hv : evP f parts = vs) (ho : fillL (fun i => some (i * size, size)) zero vs = some out)
    (h : WOps P all Z K rest (upd f d (.agg out.toArray)) ds w) : WOps P all Z K (⟨some d, .build T parts.toArray, ty, pos, af, none⟩ :: rest) f ds w := by
  obtain ⟨j, hj, hs⟩ := hT.out
  obtain ⟨z, hz, hzc⟩ := run_zero (P := P) (T := T) w
  refine W_val rfl ?_ h
  rw [evP_map] at hv
  have hfill := fill_of_fillL _ _ _ _ ho
  have e : Array.map (fun (x : Nat × Operand) => match x with | (i, x) => (i, ev f x)) parts.toArray = vs.toArray := by
    rw [← hv]; simp
  simp only [execOp, e, Instr.build, Sem.run_bind, hz, Result.andThen_ok, run_underlying hT.und, hzc, sizeOf, typeInfo, program]
  simp [Sem.run, hj, hs, hfill]

/-- []T{..}, elements of `size` cells -/
theorem W_buildSlice {T e size bytes n : Nat} {z : Value} {parts : List (Nat × Operand)} {vs : List (Nat × Value)} {out : List Value} [hT : SlT P T e size bytes z] (hv : evP f parts = vs) (hn : n * size ≤ 16777216)
    (ho : fillL (fun i => some (i * size, size)) (madeCells z.cells (n * size)).toList vs = some out)
    (h : ∀ w', New w w' e out → WOps P all Z K rest (upd f d (.slice (some ⟨w.heap.size, 0, none⟩) n n)) ds w') : WOps P all Z K (⟨some d, .buildSlice T n parts.toArray, ty, pos, af, none⟩ :: rest) f ds w := by
  obtain ⟨i, hi, hz, hsi, hby⟩ := hT.out
  refine W_val (v := .slice (some ⟨w.heap.size, 0, none⟩) n n) (w' := w.alloc (.cells out.toArray e)) rfl ?_ (h _ (New.mk_alloc w _ e))
  rw [evP_map] at hv
  have hfill := fill_of_fillL _ _ _ _ ho
  have he : Array.map (fun (x : Nat × Operand) => match x with | (i, x) => (i, ev f x)) parts.toArray = vs.toArray := by
    rw [← hv]; simp
  have hn' : ¬ (16777216 < n * size) := by omega
  have hmade : (madeCells z.cells (n * size)).toList.toArray = (Array.range (n * size)).map (fun j => z.cells[j % z.cells.size]!) := by rw [Array.toArray_toList]; rfl
  rw [hmade] at hfill
  simp only [execOp, he, Instr.buildSlice, Sem.run_bind, run_underlying hT.und, Result.andThen_ok, sizeOf, typeInfo, program]
  by_cases h0 : n * size = 0
  · simp [h0, Array.range_zero'] at hfill
    simp [Sem.run, hi, hsi, h0, Array.range_zero', hfill, newRow, newObj]
  · simp [Sem.run, hi, hsi, h0, hn', hz, zeroValue, typeInfo, hfill, newRow, newObj]

/-- []T{..}, elements of one cell -/
theorem W_buildSlice1 {T e bytes n : Nat} {z : Value} {parts : List (Nat × Operand)} {vs : List (Nat × Value)} {out : List Value} [hT : SlT P T e 1 bytes z] (hz : z.cells = #[z]) (hn : n ≤ 16777216) (hv : evP f parts = vs)
    (ho : fillL (fun i => some (i, 1)) (List.replicate n z) vs = some out)
    (h : ∀ w', New w w' e out → WOps P all Z K rest (upd f d (.slice (some ⟨w.heap.size, 0, none⟩) n n)) ds w') : WOps P all Z K (⟨some d, .buildSlice T n parts.toArray, ty, pos, af, none⟩ :: rest) f ds w := by
  refine W_buildSlice hv (by omega) ?_ h
  rw [hz, Nat.mul_one, toList_madeCells_one]
  have e : (fun i : Nat => some (i * 1, 1)) = fun i => some (i, 1) := by funext i; rw [Nat.mul_one]
  rw [e]
  exact ho
/-- make([]T, n), elements of one cell -/
theorem W_make1 {T e bytes : Nat} {z : Value} {l c : Operand} {k k' : IntKind} {n : Nat} {N M : Int} [hT : SlT P T e 1 bytes z] (hz : z.cells = #[z]) (hl : ev f l = .int k N) (hc : ev f c = .int k' M) (hN : N = (n : Int)) (hM : M = (n : Int)) (hb : bytes * n ≤ 281474976710656) (hm : n ≤ 9223372036854775807)
    (h : ∀ w', New w w' e (List.replicate n z) → WOps P all Z K rest (upd f d (.slice (some ⟨w.heap.size, 0, none⟩) n n)) ds w') :
    WOps P all Z K (⟨some d, .makeSlice T l c, ty, pos, af, none⟩ :: rest) f ds w :=
  W_make hl hc hN hM hb (by unfold maxLen; omega) fun w' hw' => h w' (by rw [hz, Nat.mul_one, toList_madeCells_one] at hw'; exact hw')

/-! ### Function values -/
theorem W_makeFunc {g : FuncId} {a1 a2 : List Operand} {v1 v2 : List Value} (h1 : evL f a1 = v1) (h2 : evL f a2 = v2) (h : WOps P all Z K rest (upd f d (.func (.func g) v1.toArray v2.toArray)) ds w) :
    WOps P all Z K (⟨some d, .makeFunc (.func g) a1.toArray a2.toArray, ty, pos, af, none⟩ :: rest) f ds w := by
  refine W_val rfl ?_ h
  rw [evL_map] at h1 h2
  simp [execOp, Instr.makeFunc, ← h1, ← h2]

theorem W_callvP {g : FuncId} {t : Nat} {xs : List Operand} {ats : Array TypeId} {vs v1 v2 : List Value} {R : Value → World → Prop} {Y : List PanicEntry → World → Prop} [hg : PlainFn P g]
    (hf : f t = .func (.func g) v1.toArray v2.toArray) (hc : FnP P g (v1 ++ vs ++ v2) w R Y) (ha : evL f xs = vs) (h : ∀ v w', R v w' → WOps P all Z K rest (upd f d v) ds w') (hz : ∀ ch w', Y ch w' → Z f ds ch w') :
    WOps P all Z K (⟨some d, .call ⟨.value (.tmp t), xs.toArray, ats⟩, ty, pos, af, none⟩ :: rest) f ds w := by
  obtain ⟨fn, h1, h2, h3⟩ := hg.out
  have hr : (execOp (ev f) ⟨some d, .call ⟨.value (.tmp t), xs.toArray, ats⟩, ty, pos, af, none⟩).run P w = .ok (.enter g (v1 ++ vs ++ v2).toArray) w := by
    rw [evL_map] at ha
    simp only [execOp, resolve, ev, hf, Deferred.ofValue, Sem.run_bind, Sem.run_pure, Result.andThen_ok, invoke, callFunc, program]
    simp [Sem.run, h1, h2, h3, ← ha]
  unfold WOps
  simp only [wantedF, if_true, stepP, hr]
  refine Calls.mono hc fun e w' he => ?_
  cases e with
  | returned v => exact h v w' he
  | panicked ch => exact hz ch w' he
  | outgrown => exact he
theorem W_callv {g : FuncId} {t : Nat} {xs : List Operand} {ats : Array TypeId} {vs v1 v2 : List Value} {R : Value → World → Prop} [hg : PlainFn P g]
    (hf : f t = .func (.func g) v1.toArray v2.toArray) (hc : Fn P g (v1 ++ vs ++ v2) w R) (ha : evL f xs = vs) (h : ∀ v w', R v w' → WOps P all Z K rest (upd f d v) ds w') :
    WOps P all Z K (⟨some d, .call ⟨.value (.tmp t), xs.toArray, ats⟩, ty, pos, af, none⟩ :: rest) f ds w :=
  W_callvP hf hc ha h fun _ _ h => h.elim

theorem fn_of_wc {g : FuncId} {fn : Func} {c : Code} {args : List Value} {R : Value → World → Prop} (hf : P.funcs[g]? = some fn) (hb : fn.body = some c) {n : Nat} (hn : fn.ntmps = n) (hl : args.length ≤ n) (hok : codeOk n false c = true)
    (h : WC P ⟨n, none⟩ c (finQ P fn R fun _ _ => False) (argF args) [] w) : Fn P g args w R := fnP_of_wc hf hb hn hl hok h
section
variable {fn : Func} {R : Value → World → Prop} {Y : List PanicEntry → World → Prop} {t u v : Nat}
theorem fin_ret0 (hr : fn.results.toList = []) (h : R (.tuple #[]) w) : finQ P fn R Y .ret f [] w := ⟨rfl, by rw [hr]; exact h⟩
theorem fin_end0 (hr : fn.results.toList = []) (h : R (.tuple #[]) w) : finQ P fn R Y .normal f [] w := ⟨rfl, by rw [hr]; exact h⟩
theorem fin_ret1 (hr : fn.results.toList = [.tmp t]) (h : R (f t) w) : finQ P fn R Y .ret f [] w := ⟨rfl, by rw [hr]; exact h⟩
theorem fin_ret2 (hr : fn.results.toList = [.tmp t, .tmp u]) (h : R (.tuple #[f t, f u]) w) : finQ P fn R Y .ret f [] w := ⟨rfl, by rw [hr]; exact h⟩
theorem fin_ret3 (hr : fn.results.toList = [.tmp t, .tmp u, .tmp v]) (h : R (.tuple #[f t, f u, f v]) w) : finQ P fn R Y .ret f [] w := ⟨rfl, by rw [hr]; exact h⟩

theorem run_loadVar_agg {T n b o : Nat} {L : List Value} (hT : AggT P T n) (hl : L.length = n) (hc : Cells w b o L) : (loadVar T ⟨b, o, none⟩).run P w = .ok (.agg L.toArray) w := by
  obtain ⟨⟨dd, h1, h2⟩, i, hi, hs⟩ := hT.out
  have e : (isAgg T).run P w = .ok true w := by
    simp only [isAgg, Sem.run_bind, run_underlying h1, Result.andThen_ok]
    cases dd <;> simp_all [aggD]
  have hr := run_loadCells_list (P := P) w ⟨b, o, none⟩ L (fun j v hj => by rw [Addr.add_lit]; exact hc j v hj)
  rw [hl, ← hs] at hr
  simp only [loadVar, Sem.run_bind, Result.andThen_ok, e, if_true, sizeOf, typeInfo, program]
  simp [Sem.run, hi, hr]
/-- the one result lies in memory, a struct or an array -/
theorem fin_retA {T n b o : Nat} {L : List Value} [hT : AggT P T n] (hr : fn.results.toList = [.cell t T]) (ha : f t = .pointer (some ⟨b, o, none⟩)) (hl : L.length = n) (hc : Cells w b o L) (h : R (.agg L.toArray) w) : finQ P fn R Y .ret f [] w :=
  ⟨rfl, by rw [hr]; exact ⟨_, _, ha, run_loadVar_agg hT hl hc, h⟩⟩
theorem fin_retA1 {T n b o : Nat} {L : List Value} [hT : AggT P T n] (hr : fn.results.toList = [.cell t T, .tmp u]) (ha : f t = .pointer (some ⟨b, o, none⟩)) (hl : L.length = n) (hc : Cells w b o L) (h : R (.tuple #[.agg L.toArray, f u]) w) : finQ P fn R Y .ret f [] w :=
  ⟨rfl, by rw [hr]; exact ⟨_, _, ha, run_loadVar_agg hT hl hc, h⟩⟩
end
/-! ### Code -/
variable {n : Cf} {Q : Post}
theorem C_seq {a b : Code} (h : WC P n a (thenQ (WC P n b Q) Q) f ds w) : WC P n (.seq a b) Q f ds w := h
theorem C_block {id : Nat} {c : Code} (h : WC P n c (blockQ id Q) f ds w) : WC P n (.block id c) Q f ds w := h
theorem C_scope {c : Code} (h : WC P n c (scopeQ Q) f ds w) : WC P n (.scope c) Q f ds w := h
theorem C_region {id : Nat} {ops : List Oper} (h : WOps P ops.toArray (fun f ds ch w => Q (.panic ch) f ds w) (Q .normal) ops f ds w) : WC P n (.region id ops.toArray false) Q f ds w := h
theorem C_skip (h : Q .normal f ds w) : WC P n .skip Q f ds w := h
theorem C_label {l : Nat} (h : Q .normal f ds w) : WC P n (.label l) Q f ds w := h
theorem C_ret (h : Q .ret f ds w) : WC P n .ret Q f ds w := h
theorem C_exit {id : Nat} (h : Q (.exit id) f ds w) : WC P n (.exit id) Q f ds w := h
theorem C_cond_t {c : Operand} {x y : Code} (hc : ev f c = .bool true) (h : WC P n x Q f ds w) : WC P n (.cond c x y) Q f ds w := by
  simp only [WC, hc, if_true]; exact h
theorem C_cond_f {c : Operand} {x y : Code} (hc : ev f c = .bool false) (h : WC P n y Q f ds w) : WC P n (.cond c x y) Q f ds w := by
  simp only [WC, hc, Bool.false_eq_true, if_false]; exact h
theorem C_cond {c : Operand} {x y : Code} {b : Bool} (hc : ev f c = .bool b) (ht : b = true → WC P n x Q f ds w) (hf : b = false → WC P n y Q f ds w) : WC P n (.cond c x y) Q f ds w := by
  cases b
  · exact C_cond_f hc (hf rfl)
  · exact C_cond_t hc (ht rfl)
theorem Q_then {k : Fr → DS → World → Prop} (h : k f ds w) : thenQ k Q .normal f ds w := h
theorem Q_then_ret {k : Fr → DS → World → Prop} (h : Q .ret f ds w) : thenQ k Q .ret f ds w := h
theorem Q_then_exit {k : Fr → DS → World → Prop} {i : Nat} (h : Q (.exit i) f ds w) : thenQ k Q (.exit i) f ds w := h
theorem Q_then_panic {k : Fr → DS → World → Prop} {c : List PanicEntry} (h : Q (.panic c) f ds w) : thenQ k Q (.panic c) f ds w := h
theorem Q_block {id : Nat} (h : Q .normal f ds w) : blockQ id Q .normal f ds w := h
theorem Q_block_ret {id : Nat} (h : Q .ret f ds w) : blockQ id Q .ret f ds w := h
theorem Q_block_panic {id : Nat} {c : List PanicEntry} (h : Q (.panic c) f ds w) : blockQ id Q (.panic c) f ds w := h
theorem Q_block_here {id : Nat} (h : Q .normal f ds w) : blockQ id Q (.exit id) f ds w := by simp only [blockQ, if_true]; exact h
theorem Q_block_on {id i : Nat} (hi : Nat.beq i id = false) (h : Q (.exit i) f ds w) : blockQ id Q (.exit i) f ds w := by
  have : ¬ i = id := fun e => by subst e; simp at hi
  simp only [blockQ, if_neg this]; exact h
theorem Q_scope {e : Exit} (he : ∀ l, e ≠ .goto l) (h : Q e f ds w) : scopeQ Q e f ds w := by
  cases e <;> first | exact h | exact absurd rfl (he _)

/-- a loop: what its live slots hold, as a function of a state x; what else holds; a measure -/
theorem C_loop {α : Type} (L : α → List (Nat × Value)) (I : α → World → Prop) (μ : α → Nat) (x0 : α) {c : Code} (h0 : agr (L x0) f) (hI : I x0 w)
    (hr : ∀ x w f', I x w → WC P n c (thenQ (fun f'' ds'' w'' => ∃ y, (ds'' = ds ∧ agr (L y) f'' ∧ I y w'') ∧ μ y < μ x) Q) (ov (L x) f') ds w) : WC P n (.loop c) Q f ds w := by
  refine ⟨α, fun x f ds' w => ds' = ds ∧ agr (L x) f ∧ I x w, μ, x0, ⟨rfl, h0, hI⟩, ?_⟩
  rintro x f ds' w ⟨rfl, h1, h2⟩
  have h := hr x w f h2
  rw [ov_of_agr h1] at h
  exact h

section
variable {x : Operand}
theorem M_int {k : IntKind} {a : Int} (hx : ev f x = .int k a) (h : WOps P all Z K rest (upd f d (.int k a)) ds w) : WOps P all Z K (⟨some d, .move x, ty, pos, af, none⟩ :: rest) f ds w := W_move (by rw [hx]; exact h)
theorem M_slice {a : Option Addr} {l c : Nat} (hx : ev f x = .slice a l c) (h : WOps P all Z K rest (upd f d (.slice a l c)) ds w) : WOps P all Z K (⟨some d, .move x, ty, pos, af, none⟩ :: rest) f ds w := W_move (by rw [hx]; exact h)
theorem M_ptr {a : Option Addr} (hx : ev f x = .pointer a) (h : WOps P all Z K rest (upd f d (.pointer a)) ds w) : WOps P all Z K (⟨some d, .move x, ty, pos, af, none⟩ :: rest) f ds w := W_move (by rw [hx]; exact h)
theorem M_bool {b : Bool} (hx : ev f x = .bool b) (h : WOps P all Z K rest (upd f d (.bool b)) ds w) : WOps P all Z K (⟨some d, .move x, ty, pos, af, none⟩ :: rest) f ds w := W_move (by rw [hx]; exact h)
theorem M_str {s : ByteArray} (hx : ev f x = .string s) (h : WOps P all Z K rest (upd f d (.string s)) ds w) : WOps P all Z K (⟨some d, .move x, ty, pos, af, none⟩ :: rest) f ds w := W_move (by rw [hx]; exact h)
theorem M_tuple {c : Array Value} (hx : ev f x = .tuple c) (h : WOps P all Z K rest (upd f d (.tuple c)) ds w) : WOps P all Z K (⟨some d, .move x, ty, pos, af, none⟩ :: rest) f ds w := W_move (by rw [hx]; exact h)
theorem M_agg {c : Array Value} (hx : ev f x = .agg c) (h : WOps P all Z K rest (upd f d (.agg c)) ds w) : WOps P all Z K (⟨some d, .move x, ty, pos, af, none⟩ :: rest) f ds w := W_move (by rw [hx]; exact h)
theorem M_func {g : Go.Fn} {a b : Array Value} (hx : ev f x = .func g a b) (h : WOps P all Z K rest (upd f d (.func g a b)) ds w) : WOps P all Z K (⟨some d, .move x, ty, pos, af, none⟩ :: rest) f ds w := W_move (by rw [hx]; exact h)
theorem M_map {r : Option Nat} (hx : ev f x = .map r) (h : WOps P all Z K rest (upd f d (.map r)) ds w) : WOps P all Z K (⟨some d, .move x, ty, pos, af, none⟩ :: rest) f ds w := W_move (by rw [hx]; exact h)
theorem M_assign (h : WOps P all Z K (⟨some d, .move x, ty, pos, af, none⟩ :: rest) f ds w) : WOps P all Z K (⟨some d, .assign x, ty, pos, af, none⟩ :: rest) f ds w := h
theorem M_pick_t {c y : Operand} (hc : ev f c = .bool true) (h : WOps P all Z K (⟨some d, .move x, ty, pos, af, none⟩ :: rest) f ds w) : WOps P all Z K (⟨some d, .pick c x y, ty, pos, af, none⟩ :: rest) f ds w :=
  W_pick_t hc (by simpa [WOps, wantedF, stepP, execOp, putF] using h)
theorem M_pick_f {c y : Operand} (hc : ev f c = .bool false) (h : WOps P all Z K (⟨some d, .move x, ty, pos, af, none⟩ :: rest) f ds w) : WOps P all Z K (⟨some d, .pick c y x, ty, pos, af, none⟩ :: rest) f ds w :=
  W_pick_f hc (by simpa [WOps, wantedF, stepP, execOp, putF] using h)
end

end Go.Proofs.YteonolnfgppagaaDoor
