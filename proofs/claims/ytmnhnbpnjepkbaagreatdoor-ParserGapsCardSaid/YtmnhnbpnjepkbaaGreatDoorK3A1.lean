/- The parser's plain law: the first wrong token. The parser's plain law: other gaps between the tokens. The laws' helpers: between, spread. The walk through ParserFirstError. Conditions: none. -/
import Derived.Test.YtmnhnbpnjepkbaaGreatDoorK1A15

namespace Go.Proofs.YtmnhnbpnjepkbaaGreatDoor
set_option linter.unusedVariables false

theorem take_snoc {α : Type} {l : List α} {k : Nat} {x : α} (h : l[k]? = some x) : l.take (k + 1) = l.take k ++ [x] := by
  rw [List.take_add_one, h]; rfl
/-- the scan stands ahead of each token, and behind it -/
theorem reach_at {t : List UInt8} {ts : List Tok} (h : lexM t = .ok ts) : ∀ k, k < ts.length → ∃ x, ts[k]? = some x ∧ Reach1 t 0 [] x.loc (ts.take k) ∧ Reach1 t (x.loc + x.text.length) (ts.take (k + 1)) t.length ts ∧
    x.loc + x.text.length ≤ t.length ∧ 1 ≤ x.text.length ∧ ∀ j y, j < k → ts[j]? = some y → y.loc + y.text.length ≤ x.loc := by
  obtain ⟨hl, hr⟩ := lexM_ok h
  intro k
  induction k with
  | zero =>
    intro hk
    obtain ⟨x, g1, g2, g3, g4, g5, g6⟩ := hr.first (Nat.le_refl _) hk
    refine ⟨x, g1, g2, ?_, g5, g4, fun j y hj => by omega⟩
    rw [take_snoc (k := 0) g1]; exact g6
  | succ k ih =>
    intro hk
    obtain ⟨x, g1, g2, g3, g4, g5, g6⟩ := ih (by omega)
    have hlen : (ts.take (k + 1)).length = k + 1 := by simp; omega
    obtain ⟨y, q1, q2, q3, q4, q5, q6⟩ := g3.first (Nat.le_refl _) (by omega)
    rw [hlen] at q1
    obtain ⟨z, r1, r2, r3⟩ := hr.tok k (by simp) (by omega)
    rw [g1] at r1; cases r1
    refine ⟨y, q1, r2.trans q2, ?_, q5, q4, fun j u hj hu => ?_⟩
    · rw [take_snoc q1]; exact q6
    · have hle := q2.le
      by_cases hjk : j = k
      · subst hjk; rw [g1] at hu; cases hu; exact hle
      · have := g6 j u (by omega) hu
        omega
/-- the text ahead of a token has the tokens ahead of it -/
theorem lexM_before {t : List UInt8} {ts : List Tok} {k : Nat} {x : Tok} (h : lexM t = .ok ts) (hk : ts[k]? = some x) : lexM (t.take x.loc) = .ok (ts.take k) := by
  have hlt : k < ts.length := (List.getElem?_eq_some_iff.1 hk).1
  obtain ⟨y, g1, g2, g3, g4, g5, g6⟩ := reach_at h k hlt
  rw [hk] at g1; cases g1
  have hl := (lexM_ok h).1
  have e : (t.take x.loc).length = x.loc := by simp; omega
  refine lexM_reach (by rw [e]; omega) ?_
  rw [e]
  exact g2.take (Nat.le_refl _) (by omega)
theorem lexM_upto {t : List UInt8} {ts : List Tok} {k : Nat} {x : Tok} (h : lexM t = .ok ts) (hk : ts[k]? = some x) : x.loc + x.text.length ≤ t.length ∧ lexM (t.take (x.loc + x.text.length)) = .ok (ts.take (k + 1)) := by
  obtain ⟨y, g1, g2, g3⟩ := ok_upto h (List.getElem?_eq_some_iff.1 hk).1
  rw [hk] at g1; cases g1
  exact ⟨g2, g3⟩
theorem loc_inj {t : List UInt8} {ts : List Tok} {i j : Nat} {x y : Tok} (h : lexM t = .ok ts) (hi : ts[i]? = some x) (hj : ts[j]? = some y) (e : x.loc = y.loc) : i = j := by
  obtain ⟨x', a1, _, _, _, a5, a6⟩ := reach_at h i (List.getElem?_eq_some_iff.1 hi).1
  obtain ⟨y', b1, _, _, _, b5, b6⟩ := reach_at h j (List.getElem?_eq_some_iff.1 hj).1
  rw [hi] at a1; cases a1
  rw [hj] at b1; cases b1
  rcases Nat.lt_trichotomy i j with h1 | h1 | h1
  · have := b6 i x h1 hi; omega
  · exact h1
  · have := a6 j y h1 hj; omega
theorem end_loc {nt : NT} {t : List UInt8} {ts : List Tok} {o : Out nt.T} (h : PRes nt t o) (hm : lexM t = .ok ts) (he : Out.errno o = 51) : Out.loc o = t.length := by
  unfold PRes at h
  rw [hm] at h
  obtain ⟨a, h1, rfl⟩ := h
  cases a with
  | ok y => cases he
  | error l =>
    cases l with
    | nil => rfl
    | cons x l => cases he
theorem first_error {nt : NT} {t : List UInt8} {ts : List Tok} {o o1 o2 : Out nt.T} {i : Nat} {x : Tok} (h : PRes nt t o) (hm : lexM t = .ok ts) (hx : ts[i]? = some x)
    (h1 : PRes nt (t.take (x.loc + x.text.length)) o1) (h2 : PRes nt (t.take x.loc) o2) (he : Out.errno o = 50) (hl : Out.loc o = x.loc) :
    Out.errno o1 = 50 ∧ Out.loc o1 = x.loc ∧ (Out.errno o2 = 0 ∨ Out.errno o2 = 51) := by
  unfold PRes at h h1 h2
  rw [hm] at h
  rw [(lexM_upto hm hx).2] at h1
  rw [lexM_before hm hx] at h2
  obtain ⟨a, ha, rfl⟩ := h
  obtain ⟨b, hb, rfl⟩ := h1
  obtain ⟨c, hc, rfl⟩ := h2
  cases a with
  | ok y => cases he
  | error l =>
    cases l with
    | nil => cases he
    | cons y r =>
      have hyl : y.loc = x.loc := Int.ofNat_inj.1 hl
      obtain ⟨l1, rfl⟩ : (y :: r) <:+ ts := ha.suffix
      have hy : (l1 ++ y :: r)[l1.length]? = some y := by simp
      obtain rfl := loc_inj hm hx hy hyl.symm
      rw [hx] at hy; cases hy
      have e1 : (l1 ++ x :: r).take (l1.length + 1) = l1 ++ [x] := by rw [take_snoc hx]; simp
      have e2 : (l1 ++ x :: r).take l1.length = l1 := by simp
      rw [e1] at hb
      rw [e2] at hc
      have hb' : Run (whole nt) (l1 ++ x :: []) (.error ([] ++ x :: [])) := Run.aheadE (l1' := []) [] ha
      cases hb.det hb'
      have hn := Run.before ha hc
      refine ⟨rfl, rfl, ?_⟩
      cases c with
      | ok y => exact .inl rfl
      | error l =>
        have : l = [] := hn
        subst this
        exact .inr rfl
end Go.Proofs.YtmnhnbpnjepkbaaGreatDoor

namespace Go.Proofs.YtmnhnbpnjepkbaaGreatDoor
set_option linter.unusedVariables false

/-! ### Gaps -/
def GapOK (g : List UInt8) : Prop := (∃ c r, g = c :: r ∧ sepB c) ∧ ∀ u, Reach1 (g ++ u) 0 [] g.length []
theorem Reads.gapO {s g : List UInt8} {us : List Tok} (h : Reads s us) (hg : GapOK g) (hu : us.length ≤ 2000) : Reads (s ++ g) us := by
  intro u
  have h1 := h (g ++ u)
  have h2 := (hg.2 u).shift s us (by simpa using hu)
  simp only [Nat.add_zero, List.map_nil, List.append_nil] at h2
  rw [List.append_assoc, List.length_append]
  exact h1.trans h2
theorem Reads.tokO {s g y : List UInt8} {us : List Tok} {k : Int} (h : Reads s us) (hy : Alone k y) (hg : GapOK g) (hu : us.length < 2000) : Reads (s ++ y ++ g) (us ++ [⟨k, y, s.length⟩]) := by
  intro u
  obtain ⟨⟨c, r, e, hc⟩, hgr⟩ := hg
  have h1 := h (y ++ (g ++ u))
  have hs : stepM (y ++ (g ++ u)) 0 [] = .ok (y.length, [⟨k, y, 0⟩]) := by
    rw [e, List.cons_append, step_appc hc y _ 0 [] (by have := hy.pos; omega) hy.kind]
    exact hy.step
  have h2 : Reach1 (y ++ (g ++ u)) 0 [] y.length [⟨k, y, 0⟩] := .step (by have := hy.pos; simp; omega) hs (.refl _ _)
  have h2 := h2.shift s us (by simp; omega)
  have h3 := ((hgr u).shift (s ++ y) (us ++ [⟨k, y, s.length⟩]) (by simp; omega))
  simp only [Nat.add_zero, List.map_nil, List.append_nil, List.map_cons, shT, Nat.zero_add, List.length_append, List.append_assoc] at h2 h3 ⊢
  have := (h1.trans h2).trans h3
  rw [← Nat.add_assoc]
  exact this
theorem Reads.last {s y : List UInt8} {us : List Tok} {k : Int} (h : Reads s us) (hy : Alone k y) (hu : us.length < 2000) : Reach1 (s ++ y) 0 [] (s ++ y).length (us ++ [⟨k, y, s.length⟩]) := by
  have h1 := h y
  have h2 : Reach1 y 0 [] y.length [⟨k, y, 0⟩] := .step (by have := hy.pos; omega) hy.step (.refl _ _)
  have h2 := h2.shift s us (by simp; omega)
  simp only [Nat.add_zero, List.map_cons, List.map_nil, shT, Nat.zero_add, List.length_append, List.append_nil] at h2 ⊢
  exact h1.trans h2
def gapsP : List (List UInt8) := [[32], [10], [9, 13, 32], [37, 10], [32, 37, 32, 97, 32, 38, 32, 98, 59, 10], [32, 32]]
theorem gapsP_ok : ∀ g ∈ gapsP, GapOK g ∧ g.length ≤ 10 := by
  intro g hg
  simp only [gapsP, List.mem_cons, List.not_mem_nil, or_false] at hg
  rcases hg with rfl | rfl | rfl | rfl | rfl | rfl
  · exact ⟨⟨⟨_, _, rfl, .inl rfl⟩, fun u => .step (a1 := 1) (by simp) rfl (.refl _ _)⟩, by simp⟩
  · exact ⟨⟨⟨_, _, rfl, .inr (.inr (.inl rfl))⟩, fun u => .step (a1 := 1) (by simp) rfl (.refl _ _)⟩, by simp⟩
  · exact ⟨⟨⟨_, _, rfl, .inr (.inl rfl)⟩, fun u => .step (a1 := 1) (by simp) rfl (.step (a1 := 2) (by simp) rfl (.step (a1 := 3) (by simp) rfl (.refl _ _)))⟩, by simp⟩
  · exact ⟨⟨⟨_, _, rfl, .inr (.inr (.inr (.inr rfl)))⟩, fun u => .step (a1 := 1) (by simp) rfl (.step (a1 := 2) (by simp) rfl (.refl _ _))⟩, by simp⟩
  · exact ⟨⟨⟨_, _, rfl, .inl rfl⟩, fun u => .step (a1 := 1) (by simp) rfl (.step (a1 := 9) (by simp) rfl (.step (a1 := 10) (by simp) rfl (.refl _ _)))⟩, by simp⟩
  · exact ⟨⟨⟨_, _, rfl, .inl rfl⟩, fun u => .step (a1 := 1) (by simp) rfl (.step (a1 := 2) (by simp) rfl (.refl _ _))⟩, by simp⟩

/-! ### A text spread -/
def gapI (gs : List UInt8) (i : Nat) : Nat := match gs[i]? with | some g => g.toNat | none => i
def gapK (gs : List UInt8) (i : Nat) : List UInt8 := gapsP.getD (gapI gs i % 6) []
theorem gapK_at (gs : List UInt8) (i : Nat) : gapsP[gapI gs i % 6]? = some (gapK gs i) := by
  unfold gapK
  have h : gapI gs i % 6 < gapsP.length := Nat.mod_lt _ (by decide)
  rw [List.getD_eq_getElem?_getD, List.getElem?_eq_getElem h]; rfl
theorem gapK_ok (gs : List UInt8) (i : Nat) : GapOK (gapK gs i) ∧ (gapK gs i).length ≤ 10 := gapsP_ok _ (List.mem_of_getElem? (gapK_at gs i))
def tokD (ts : List Tok) (k : Nat) : Tok := ts.getD k ⟨0, [], 0⟩
def sprT (ts : List Tok) (gs : List UInt8) : Nat → List UInt8
  | 0 => []
  | k + 1 => sprT ts gs k ++ gapK gs k ++ (tokD ts k).text
def sprA (ts : List Tok) (gs : List UInt8) : Nat → List Int
  | 0 => []
  | k + 1 => sprA ts gs k ++ [((sprT ts gs k ++ gapK gs k).length : Int)]
def sprK (ts : List Tok) (gs : List UInt8) : Nat → List Tok
  | 0 => []
  | k + 1 => sprK ts gs k ++ [⟨(tokD ts k).kind, (tokD ts k).text, (sprT ts gs k ++ gapK gs k).length⟩]
theorem tokD_at {ts : List Tok} {k : Nat} (h : k < ts.length) : ts[k]? = some (tokD ts k) := by
  unfold tokD
  rw [List.getD_eq_getElem?_getD, List.getElem?_eq_getElem h]; rfl
theorem sprK_len (ts : List Tok) (gs : List UInt8) : ∀ k, (sprK ts gs k).length = k
  | 0 => rfl
  | k + 1 => by simp [sprK, sprK_len ts gs k]
theorem sprA_len (ts : List Tok) (gs : List UInt8) : ∀ k, (sprA ts gs k).length = k
  | 0 => rfl
  | k + 1 => by simp [sprA, sprA_len ts gs k]
theorem sprA_eq (ts : List Tok) (gs : List UInt8) : ∀ k, sprA ts gs k = (sprK ts gs k).map fun x => (x.loc : Int)
  | 0 => rfl
  | k + 1 => by simp [sprA, sprK, sprA_eq ts gs k]
theorem sprK_bare (ts : List Tok) (gs : List UInt8) : ∀ k, k ≤ ts.length → (sprK ts gs k).map bare = (ts.take k).map bare
  | 0, _ => rfl
  | k + 1, h => by
    rw [take_snoc (tokD_at (by omega : k < ts.length)), List.map_append, ← sprK_bare ts gs k (by omega)]
    simp [sprK, bare]
theorem sprT_len (ts : List Tok) (gs : List UInt8) : ∀ k, k ≤ ts.length → (sprT ts gs k).length ≤ 10 * k + bytesT (ts.take k)
  | 0, _ => by simp [sprT]
  | k + 1, h => by
    have h1 := sprT_len ts gs k (by omega)
    have h2 := (gapK_ok gs k).2
    rw [take_snoc (tokD_at (by omega : k < ts.length))]
    simp [sprT, bytesT] at h1 ⊢
    omega
theorem spr_reads {ts : List Tok} (gs : List UInt8) (hA : ∀ x ∈ ts, Alone x.kind x.text) (hn : ts.length ≤ 2000) : ∀ k, k < ts.length → Reads (sprT ts gs k ++ gapK gs k) (sprK ts gs k)
  | 0, _ => Reads.gapO (s := []) (fun u => .refl _ _) (gapK_ok gs 0).1 (by simp [sprK])
  | k + 1, h => by
    have ih := spr_reads gs hA hn k (by omega)
    have ha := hA _ (List.mem_of_getElem? (tokD_at (by omega : k < ts.length)))
    exact ih.tokO ha (gapK_ok gs (k + 1)).1 (by rw [sprK_len]; omega)
theorem spr_lex {ts : List Tok} (gs : List UInt8) (hA : ∀ x ∈ ts, Alone x.kind x.text) (hn : ts.length ≤ 2000) (hl : (sprT ts gs ts.length).length ≤ 6000) : lexM (sprT ts gs ts.length) = .ok (sprK ts gs ts.length) := by
  refine lexM_reach hl ?_
  cases hts : ts.length with
  | zero => exact .refl _ _
  | succ k =>
    have h := spr_reads gs hA hn k (by omega)
    have ha := hA _ (List.mem_of_getElem? (tokD_at (by omega : k < ts.length)))
    exact h.last ha (by rw [sprK_len]; omega)

/-! ### Places -/
def locL (t : List UInt8) (ts : List Tok) : List Int := (ts.map fun x => (x.loc : Int)) ++ [(t.length : Int)]
theorem placeM_at {l : List Int} {x : Int} {i : Nat} (hi : l[i]? = some x) (hu : ∀ j y, j < i → l[j]? = some y → y ≠ x) : placeM l x = i := by
  have : l.findIdx? (fun y => decide (y = x)) = some i := by
    rw [List.findIdx?_eq_some_iff_getElem]
    obtain ⟨h1, h2⟩ := List.getElem?_eq_some_iff.1 hi
    refine ⟨h1, by simp [h2], fun j hj => ?_⟩
    have := hu j l[j] hj (List.getElem?_eq_getElem (by omega))
    simpa using this
  unfold placeM
  rw [this]
theorem place_none {t : List UInt8} {ts : List Tok} : placeM (locL t ts) (-1) = -1 := by
  have : (locL t ts).findIdx? (fun y => decide (y = -1)) = none := by
    rw [List.findIdx?_eq_none_iff]
    intro y hy
    rcases List.mem_append.1 hy with h | h
    · obtain ⟨x, _, rfl⟩ := List.mem_map.1 h
      simp
    · simp at h; subst h; simp
  unfold placeM
  rw [this]; rfl
theorem place_err {α : Type} {t : List UInt8} {ts l : List Tok} (hm : lexM t = .ok ts) (hs : l <:+ ts) : placeM (locL t ts) (Out.loc (errOf (α := α) t.length (.error l))) = ((ts.length - l.length : Nat) : Int) := by
  obtain ⟨l1, rfl⟩ := hs
  cases l with
  | nil =>
    simp only [List.append_nil, List.length_nil, Nat.sub_zero] at hm ⊢
    refine placeM_at (by simp [locL, errOf, Out.loc]) fun j y hj hy => ?_
    rw [locL, List.getElem?_append_left (by simpa using hj), List.getElem?_map] at hy
    obtain ⟨x, hx, rfl⟩ := Option.map_eq_some_iff.1 hy
    obtain ⟨x', h1, _, _, h4, h5, _⟩ := reach_at hm j hj
    rw [hx] at h1; cases h1
    show (x.loc : Int) ≠ (t.length : Int)
    omega
  | cons z r =>
    have e : (l1 ++ z :: r).length - (z :: r).length = l1.length := by simp
    rw [e]
    refine placeM_at (i := l1.length) (by simp [locL, errOf, Out.loc]) fun j y hj hy => ?_
    rw [locL, List.getElem?_append_left (by simp; omega), List.getElem?_map] at hy
    obtain ⟨x, hx, rfl⟩ := Option.map_eq_some_iff.1 hy
    intro e
    have hz : (l1 ++ z :: r)[l1.length]? = some z := by simp
    have := loc_inj hm hx hz (Int.ofNat_inj.1 e)
    omega
theorem gaps_law {nt : NT} {t t' : List UInt8} {ts ts' : List Tok} (hm : lexM t = .ok ts) (hm' : lexM t' = .ok ts') (hb : ts.map bare = ts'.map bare) {o o' : Out nt.T} (h : PRes nt t o) (h' : PRes nt t' o') (z : nt.T) :
    Out.errno o = Out.errno o' ∧ Out.val z o = Out.val z o' ∧ placeM (locL t ts) (Out.loc o) = placeM (locL t' ts') (Out.loc o') ∧ placeM (locL t ts) (Out.loc o) ≠ -2 := by
  unfold PRes at h h'
  rw [hm] at h
  rw [hm'] at h'
  obtain ⟨a, ha, rfl⟩ := h
  obtain ⟨b, hb1, rfl⟩ := h'
  obtain ⟨c, hc, hr⟩ := Run.bare hb ha
  cases hb1.det hc
  cases a with
  | ok y =>
    cases b with
    | error e => exact hr.elim
    | ok u =>
      obtain ⟨h1, _⟩ := hr
      refine ⟨rfl, h1, ?_, ?_⟩
      · exact place_none.trans place_none.symm
      · rw [show Out.loc (errOf t.length (.ok y)) = -1 from rfl, place_none]; decide
  | error l =>
    cases b with
    | ok u => exact hr.elim
    | error l' =>
      have hll : l.map bare = l'.map bare := hr
      have h1 : l.length = l'.length := by simpa using congrArg List.length hll
      have h2 : ts.length = ts'.length := by simpa using congrArg List.length hb
      have p1 := place_err (α := nt.T) hm (show l <:+ ts from ha.suffix)
      have p2 := place_err (α := nt.T) hm' (show l' <:+ ts' from hb1.suffix)
      refine ⟨?_, ?_, ?_, ?_⟩
      · cases l <;> cases l' <;> first | rfl | (simp at h1)
      · cases l <;> cases l' <;> first | rfl | (simp at h1)
      · rw [p1, p2, h1, h2]
      · rw [p1]; omega
end Go.Proofs.YtmnhnbpnjepkbaaGreatDoor

namespace Go.Proofs.YtmnhnbpnjepkbaaGreatDoor
open Go.RowKit
set_option linter.unusedVariables false

theorem between_ok (w : World) : Fn Tryz.prog 38 [] w fun v w' => v = .slice (some ⟨w.heap.size, 0, none⟩) 6 6 ∧ Ext w w' ∧ Sl anyB w' (.slice (some ⟨w.heap.size, 0, none⟩) 6 6) 6 (gapsP.map strV) := by
  refine fn_of_wc Tryz.func38 rfl Tryz.ntmps38 (Nat.le_of_ble_eq_true rfl) (by kernel_rfl) ?_
  repeat' first | refine nx ?_ | refine C_cond_t rfl ?_ | refine C_cond_f rfl ?_ | refine Q_block_on rfl ?_
  (refine C_region ?_
   <;> (refine M_assign ?_; (first | refine M_slice rfl ?_ | refine W_move ?_))
   <;> refine W_nil ?_)
  repeat' first | refine nx ?_ | refine C_cond_t rfl ?_ | refine C_cond_f rfl ?_ | refine Q_block_on rfl ?_
  refine C_region ?_
  refine W_buildSlice1 (out := gapsP.map strV) rfl (by omega) rfl (by kernel_rfl) (fun w1 n1 => ?_)
  ((refine M_assign ?_; (first | refine M_slice rfl ?_ | refine W_move ?_))
   <;> refine W_nil ?_)
  repeat' first | refine nx ?_ | refine C_cond_t rfl ?_ | refine C_cond_f rfl ?_ | refine Q_block_on rfl ?_
  exact fin_ret1 rfl ⟨rfl, n1.keep, ⟨_, _, rfl, Nat.le_refl _, by omega, (fun h => by cases h), .inr ⟨_, _, rfl, trivial, n1.blk.cells⟩⟩⟩

theorem intsC_app (l m : List Int) : intsC (l ++ m) = intsC l ++ intsC m := by simp [intsC]
theorem spread_ok (w : World) (a : Option Addr) (c : Nat) (ts : List Tok) (gv : Value) (gs : List UInt8) (hT : Toks w a c ts) (hg : BytesAt anyB w gv gs) (hn : ts.length ≤ 2000) (hb : bytesT ts ≤ 6000) :
    Fn Tryz.prog 11 [.slice a ts.length c, gv] w fun v w' => ∃ a' c', v = .tuple #[strV (sprT ts gs ts.length), .slice a' (ts.length + 1) c'] ∧ Ext w w' ∧
      Sl anyB w' (.slice a' (ts.length + 1) c') (ts.length + 1) (intsC (sprA ts gs ts.length ++ [((sprT ts gs ts.length).length : Int)])) := by
  obtain ⟨ga, gc, rfl, hgl, hgc, hg3, hg4⟩ := id hg
  have hcap : ts.length ≤ c ∧ c ≤ 9223372036854775807 := by obtain ⟨_, _, hv, h1, h2, _⟩ := id hT; cases hv; exact ⟨h1, h2⟩
  refine fn_of_wc Tryz.func11 rfl Tryz.ntmps11 (Nat.le_of_ble_eq_true rfl) (by kernel_rfl) ?_
  repeat' first | refine nx ?_ | refine C_cond_t rfl ?_ | refine C_cond_f rfl ?_ | refine Q_block_on rfl ?_
  (refine C_region ?_
   <;> (refine M_assign ?_; (first | refine M_str rfl ?_ | refine W_move ?_))
   <;> (refine M_assign ?_; (first | refine M_slice rfl ?_ | refine W_move ?_))
   <;> refine W_nil ?_)
  repeat' first | refine nx ?_ | refine C_cond_t rfl ?_ | refine C_cond_f rfl ?_ | refine Q_block_on rfl ?_
  (refine C_region ?_)
  -- at operation 0: <dst=(some 11) op=(call <callee=(value (func 38)) args=[] argTypes=[]>) type=54 guard=none>
  refine W_call (between_ok w) rfl ?_
  rintro _ w1 ⟨rfl, k1, hB⟩
  ((refine M_assign ?_; (first | refine M_slice rfl ?_ | refine W_move ?_))
   <;> refine W_nil ?_)
  repeat' first | refine nx ?_ | refine C_cond_t rfl ?_ | refine C_cond_f rfl ?_ | refine Q_block_on rfl ?_
  (refine C_region ?_
   <;> (refine M_assign ?_; (first | refine M_str rfl ?_ | refine W_move ?_))
   <;> refine W_nil ?_)
  repeat' first | refine nx ?_ | refine C_cond_t rfl ?_ | refine C_cond_f rfl ?_ | refine Q_block_on rfl ?_
  (refine C_region ?_
   <;> (refine M_assign ?_; (first | refine M_slice rfl ?_ | refine W_move ?_))
   <;> refine W_nil ?_)
  repeat' first | refine nx ?_ | refine C_cond_t rfl ?_ | refine C_cond_f rfl ?_ | refine Q_block_on rfl ?_
  (refine C_region ?_
   <;> (refine M_assign ?_; (first | refine M_int rfl ?_ | refine W_move ?_))
   <;> refine W_nil ?_)
  repeat' first | refine nx ?_ | refine C_cond_t rfl ?_ | refine C_cond_f rfl ?_ | refine Q_block_on rfl ?_
  refine C_loop (α := Nat × Value) (fun x => [(0, .slice a ts.length c), (1, .slice ga gs.length gc), (6, .slice (some ⟨w.heap.size, 0, none⟩) 6 6), (7, strV (sprT ts gs x.1)), (8, x.2), (9, .int .i64 (x.1 : Int))])
    (fun x W => x.1 ≤ ts.length ∧ Ext w1 W ∧ W.ownsRow w1.heap.size 3 1 x.2 x.1 (intsC (sprA ts gs x.1))) (fun x => ts.length - x.1) (0, .slice none 0 0)
    ⟨rfl, rfl, rfl, rfl, rfl, rfl, trivial⟩ ⟨by simp, Ext.refl _, ⟨rfl, .inl ⟨rfl, rfl⟩⟩⟩ ?_
  rintro ⟨k, v⟩ w2 f2 ⟨hk, k2, o2⟩
  simp only at hk k2 o2 ⊢
  have hlen := sprT_len ts gs k hk
  have hbt := bytesT_take ts k
  have zk := k2.size
  repeat' first | refine nx ?_ | refine C_cond_t rfl ?_ | refine C_cond_f rfl ?_ | refine Q_block_on rfl ?_
  by_cases hlt : k < ts.length
  · have hx := tokD_at hlt
    obtain ⟨b, o, rfl, hc⟩ := ((hT.ext k1).ext k2).at hx
    have hc1 := hc 1 _ rfl
    have hgk := (gapK_ok gs k).2
    have hcell : w2.cell? ⟨w.heap.size, 0 + gapI gs k % 6, none⟩ = some (strV (gapK gs k)) := by
      obtain ⟨_, _, hv, _, _, _, h4⟩ := hB.ext k2
      cases hv
      obtain ⟨_, _, hbo, _, hcc⟩ := h4.resolve_left (by omega)
      cases hbo
      exact hcc _ _ (by rw [List.getElem?_map, gapK_at]; rfl)
    (refine C_region ?_
     <;> (first | refine M_int rfl ?_ | refine W_move ?_)
     <;> (first | refine M_slice rfl ?_ | refine W_move ?_)
     <;> refine W_len rfl ?_
     <;> (refine W_lss rfl rfl (fun hc => ?_) (fun hc => ?_) <;> try (exfalso; omega))
     <;> refine W_nil ?_)
    repeat' first | refine nx ?_ | refine C_cond_t rfl ?_ | refine C_cond_f rfl ?_ | refine Q_block_on rfl ?_
    (refine C_region ?_
     <;> (first | refine M_int rfl ?_ | refine W_move ?_)
     <;> (refine M_assign ?_; (first | refine M_int rfl ?_ | refine W_move ?_))
     <;> refine W_nil ?_)
    repeat' first | refine nx ?_ | refine C_cond_t rfl ?_ | refine C_cond_f rfl ?_ | refine Q_block_on rfl ?_
    refine C_mid (α := Unit) (fun _ => [(0, .slice (some ⟨b, o, none⟩) ts.length c), (1, .slice ga gs.length gc), (6, .slice (some ⟨w.heap.size, 0, none⟩) 6 6), (7, strV (sprT ts gs k)), (8, v), (9, .int .i64 (k : Int)), (10, .int .i64 (k : Int)), (22, .bool (decide (k < gs.length)))]) (fun _ W => w2 = W) ?_ ?_
    · by_cases hkg : k < gs.length
      · rw [decide_eq_true hkg]
        (refine C_region ?_
         <;> (first | refine M_int rfl ?_ | refine W_move ?_)
         <;> (first | refine M_slice rfl ?_ | refine W_move ?_)
         <;> refine W_len rfl ?_
         <;> (refine W_lss rfl rfl (fun hc => ?_) (fun hc => ?_) <;> try (exfalso; omega))
         <;> refine W_nil ?_)
        exact Q_join () ⟨rfl, rfl, rfl, rfl, rfl, rfl, rfl, rfl, trivial⟩ rfl
      · rw [decide_eq_false hkg]
        (refine C_region ?_
         <;> (first | refine M_int rfl ?_ | refine W_move ?_)
         <;> (first | refine M_slice rfl ?_ | refine W_move ?_)
         <;> refine W_len rfl ?_
         <;> (refine W_lss rfl rfl (fun hc => ?_) (fun hc => ?_) <;> try (exfalso; omega))
         <;> refine W_nil ?_)
        exact Q_join () ⟨rfl, rfl, rfl, rfl, rfl, rfl, rfl, rfl, trivial⟩ rfl
    rintro _ _ f4 rfl
    refine C_mid (α := Unit) (fun _ => [(0, .slice (some ⟨b, o, none⟩) ts.length c), (1, .slice ga gs.length gc), (6, .slice (some ⟨w.heap.size, 0, none⟩) 6 6), (7, strV (sprT ts gs k)), (8, v), (9, .int .i64 (k : Int)), (10, .int .i64 (gapI gs k : Int))]) (fun _ W => w2 = W) ?_ ?_
    · by_cases hkg : k < gs.length
      · obtain ⟨_, _, hv, _, _, _, h4⟩ := Sl.ext (Sl.ext (show Sl anyB w (.slice ga gs.length gc) gs.length (cells8 gs) from hg) k1) k2
        cases hv
        obtain ⟨gb, go, rfl, _, hgcell⟩ := h4.resolve_left (by omega)
        have hg5 : w2.cell? ⟨gb, go + k, none⟩ = some (.int .u8 ((gs.getD k 0).toNat : Int)) := hgcell k _ (cells8_get hkg)
        have hgi : gapI gs k = (gs.getD k 0).toNat := by unfold gapI; rw [List.getElem?_eq_getElem hkg, List.getD_eq_getElem?_getD, List.getElem?_eq_getElem hkg]; rfl
        rw [hgi]
        rw [decide_eq_true hkg]
        repeat' first | refine nx ?_ | refine C_cond_t rfl ?_ | refine C_cond_f rfl ?_ | refine Q_block_on rfl ?_ | refine Q_join_pan ?_ | refine Q_join_ret ?_ | refine Q_join_exit ?_
        have hbyte := (gs.getD k 0).toNat_lt
        (refine C_region ?_
         <;> (first | refine M_slice rfl ?_ | refine W_move ?_)
         <;> (first | refine M_int rfl ?_ | refine W_move ?_)
         <;> (first | refine W_idx1 rfl rfl rfl (by omega) ?_ | refine W_idx rfl rfl rfl (by omega) ?_ | refine W_indexAddr rfl rfl (by omega) (by omega) ?_)
         <;> (first | refine W_load rfl (Blk.cell (by assumption) (by rfl)) ?_ | refine W_load rfl (by assumption) ?_))
        refine W_conv (k' := .u8) (a := ((gs.getD k 0).toNat : Int)) rfl (inR_i64 (by omega) (by omega)) ?_
        ((refine M_assign ?_; (first | refine M_int rfl ?_ | refine W_move ?_))
         <;> refine W_nil ?_)
        exact Q_join () ⟨rfl, rfl, rfl, rfl, rfl, rfl, rfl, trivial⟩ rfl
      · have hgi : gapI gs k = k := by unfold gapI; rw [List.getElem?_eq_none (by omega)]
        rw [hgi]
        rw [decide_eq_false hkg]
        repeat' first | refine nx ?_ | refine C_cond_t rfl ?_ | refine C_cond_f rfl ?_ | refine Q_block_on rfl ?_ | refine Q_join_pan ?_ | refine Q_join_ret ?_ | refine Q_join_exit ?_
        exact Q_join () ⟨rfl, rfl, rfl, rfl, rfl, rfl, rfl, trivial⟩ rfl
    rintro _ _ f3 rfl
    repeat' first | refine nx ?_ | refine C_cond_t rfl ?_ | refine C_cond_f rfl ?_ | refine Q_block_on rfl ?_
    (refine C_region ?_
     <;> (first | refine M_str rfl ?_ | refine W_move ?_)
     <;> (first | refine M_slice rfl ?_ | refine W_move ?_)
     <;> (first | refine M_int rfl ?_ | refine W_move ?_)
     <;> (first | refine M_slice rfl ?_ | refine W_move ?_)
     <;> refine W_len rfl ?_
     <;> refine W_rem rfl rfl (by omega) (by omega) ?_)
    have ek : (gapI gs k : Int) % ((6 : Nat) : Int) = ((gapI gs k % 6 : Nat) : Int) := (Int.natCast_emod _ _).symm
    rw [ek]
    have hj6 : gapI gs k % 6 < 6 := Nat.mod_lt _ (by decide)
    generalize gapI gs k % 6 = j6 at hcell hj6
    ((first | refine W_idx1 rfl rfl rfl (by omega) ?_ | refine W_idx rfl rfl rfl (by omega) ?_ | refine W_indexAddr rfl rfl (by omega) (by omega) ?_)
     <;> (first | refine W_load rfl (Blk.cell (by assumption) (by rfl)) ?_ | refine W_load rfl (by assumption) ?_))
    refine W_sadd rfl rfl (by omega) ?_
    ((refine M_assign ?_; (first | refine M_str rfl ?_ | refine W_move ?_))
     <;> refine W_nil ?_)
    repeat' first | refine nx ?_ | refine C_cond_t rfl ?_ | refine C_cond_f rfl ?_ | refine Q_block_on rfl ?_
    (refine C_region ?_
     <;> (first | refine M_slice rfl ?_ | refine W_move ?_)
     <;> (first | refine M_str rfl ?_ | refine W_move ?_)
     <;> refine W_slen rfl ?_)
    refine W_buildSlice1 (out := [.int .i64 ((sprT ts gs k ++ gapK gs k).length : Int)]) rfl (by omega) rfl rfl (fun w3 n3 => ?_)
    have o3 := n3.own (n := 1) (size := 1) rfl (by unfold maxLen; omega) (Nat.le_refl _)
    have z3 := n3.size
    refine W_append (ok := anyB) (v := v) (sv := .slice (some ⟨w2.heap.size, 0, none⟩) 1 1) rfl rfl (ownsRow_ext o2 n3.keep) (Sl_of_own o3 fun _ _ => trivial) (by omega) rfl rfl (by intro y hy; simp at hy; subst hy; rfl) (by omega) (by omega) (by omega) (fun v4 w4 a4 => ?_)
    have e4 : Ext w1 w4 := (k2.trans n3.keep).keep a4.keep fun y hy => (own_in (ownsRow_ext o2 n3.keep) (Option.mem_toList.1 hy)).1
    have o4 := a4.own
    ((refine M_assign ?_; (first | refine M_slice rfl ?_ | refine W_move ?_))
     <;> refine W_nil ?_)
    repeat' first | refine nx ?_ | refine C_cond_t rfl ?_ | refine C_cond_f rfl ?_ | refine Q_block_on rfl ?_
    obtain ⟨b', o', hbo, hc'⟩ := ((hT.ext k1).ext e4).at hx
    cases hbo
    have hc1' := hc' 1 _ rfl
    have hxt : (tokD ts k).text.length ≤ 6000 := by
      have : bytesT (ts.take (k + 1)) ≤ bytesT ts := bytesT_take ts (k + 1)
      rw [take_snoc hx] at this
      simp [bytesT] at this hb
      omega
    clear hc1 hc hcell
    (refine C_region ?_
     <;> (first | refine M_str rfl ?_ | refine W_move ?_)
     <;> (first | refine M_slice rfl ?_ | refine W_move ?_)
     <;> (first | refine M_int rfl ?_ | refine W_move ?_)
     <;> (first | refine W_idx1 rfl rfl rfl (by omega) ?_ | refine W_idx rfl rfl rfl (by omega) ?_ | refine W_indexAddr rfl rfl (by omega) (by omega) ?_)
     <;> refine W_fieldAddr rfl ?_
     <;> (first | refine W_load rfl (Blk.cell (by assumption) (by rfl)) ?_ | refine W_load rfl (by assumption) ?_))
    refine W_sadd rfl rfl (by simp; omega) ?_
    ((refine M_assign ?_; (first | refine M_str rfl ?_ | refine W_move ?_))
     <;> refine W_nil ?_)
    repeat' first | refine nx ?_ | refine C_cond_t rfl ?_ | refine C_cond_f rfl ?_ | refine Q_block_on rfl ?_
    (refine C_region ?_
     <;> (first | refine M_int rfl ?_ | refine W_move ?_)
     <;> refine W_add rfl rfl (by first | exact inR_i64 (by omega) (by omega) | exact inR_u8 (by omega) (by omega) | exact inR_u16 (by omega) (by omega)) ?_
     <;> (refine M_assign ?_; (first | refine M_int rfl ?_ | refine W_move ?_))
     <;> refine W_nil ?_)
    repeat' first | refine nx ?_ | refine C_cond_t rfl ?_ | refine C_cond_f rfl ?_ | refine Q_block_on rfl ?_
    refine ⟨(k + 1, v4), ⟨rfl, ⟨rfl, rfl, rfl, rfl, rfl, ?_, trivial⟩, ⟨by simp only; omega, e4, ?_⟩⟩, by simp only; omega⟩
    · show Value.int .i64 ((k : Int) + 1) = _
      rw [Int.natCast_add]; rfl
    · show w4.ownsRow _ _ _ v4 (k + 1) (intsC (sprA ts gs k ++ [((sprT ts gs k ++ gapK gs k).length : Int)]))
      rw [intsC_app]
      exact o4
  · obtain rfl : k = ts.length := by omega
    (refine C_region ?_
     <;> (first | refine M_int rfl ?_ | refine W_move ?_)
     <;> (first | refine M_slice rfl ?_ | refine W_move ?_)
     <;> refine W_len rfl ?_
     <;> (refine W_lss rfl rfl (fun hc => ?_) (fun hc => ?_) <;> try (exfalso; omega))
     <;> refine W_nil ?_)
    repeat' first | refine nx ?_ | refine C_cond_t rfl ?_ | refine C_cond_f rfl ?_ | refine Q_block_on rfl ?_
    (refine C_region ?_
     <;> (first | refine M_str rfl ?_ | refine W_move ?_)
     <;> (first | refine M_slice rfl ?_ | refine W_move ?_)
     <;> (first | refine M_str rfl ?_ | refine W_move ?_)
     <;> refine W_slen rfl ?_)
    refine W_buildSlice1 (out := [.int .i64 ((sprT ts gs ts.length).length : Int)]) rfl (by omega) rfl rfl (fun w3 n3 => ?_)
    have o3 := n3.own (n := 1) (size := 1) rfl (by unfold maxLen; omega) (Nat.le_refl _)
    have z3 := n3.size
    refine W_append (ok := anyB) (v := v) (sv := .slice (some ⟨w2.heap.size, 0, none⟩) 1 1) rfl rfl (ownsRow_ext o2 n3.keep) (Sl_of_own o3 fun _ _ => trivial) (by omega) rfl rfl (by intro y hy; simp at hy; subst hy; rfl) (by omega) (by omega) (by omega) (fun v4 w4 a4 => ?_)
    have e4 : Ext w1 w4 := (k2.trans n3.keep).keep a4.keep fun y hy => (own_in (ownsRow_ext o2 n3.keep) (Option.mem_toList.1 hy)).1
    have o4 := a4.own
    have S4 := Sl_of_own (ok := anyB) o4 fun _ _ => trivial
    obtain ⟨a', c', rfl, _⟩ := id S4
    ((refine M_assign ?_; (first | refine M_str rfl ?_ | refine W_move ?_))
     <;> (refine M_assign ?_; (first | refine M_slice rfl ?_ | refine W_move ?_))
     <;> refine W_nil ?_)
    repeat' first | refine nx ?_ | refine C_cond_t rfl ?_ | refine C_cond_f rfl ?_ | refine Q_block_on rfl ?_
    refine fin_ret2 rfl ⟨a', c', rfl, k1.trans e4, ?_⟩
    rw [intsC_app]
    exact S4
end Go.Proofs.YtmnhnbpnjepkbaaGreatDoor

namespace Go.Proofs.YtmnhnbpnjepkbaaGreatDoor
open Go.RowKit
set_option linter.unusedVariables false

theorem parsed_form (w : World) (t : List UInt8) (hG : GK w) : Fn Tryz.prog 12 [strV t] w fun v w' => Ext w w' ∧ ∃ (oS : Out Spc) (oF : Out Fml) (oD : Out Edt) (x0 x1 x2 x3 x4 x5 x6 x7 x8 x9 xa xb xc xd xe xf : Value),
    PRes .spec t oS ∧ PRes .formula t oF ∧ PRes .edit t oD ∧ ResV w' v oS oF oD ∧
    v = .agg [x0, x1, x2, x3, x4, x5, x6, x7, x8, x9, xa, xb, xc, xd, xe, xf, .int .i64 oS.errno, .int .i64 oF.errno, .int .i64 oD.errno, .int .i64 oS.loc, .int .i64 oF.loc, .int .i64 oD.loc].toArray ∧
    oneC [x0, x1, x2, x3, x4, x5, x6, x7, x8, x9, xa, xb, xc, xd, xe, xf, .int .i64 oS.errno, .int .i64 oF.errno, .int .i64 oD.errno, .int .i64 oS.loc, .int .i64 oF.loc, .int .i64 oD.loc] := by
  refine Fn.mono (parsed_ok w t hG) ?_
  rintro v w' ⟨k, oS, oF, oD, pS, pF, pD, hv⟩
  obtain ⟨cs, cf, cd, rfl, fS, fF, fD⟩ := id hv
  have l1 : cs.length = 2 := spcR.len fS
  have l2 : cf.length = 5 := fmlR.len fF
  have l3 : cd.length = 9 := edtR.len fD
  have e1 := spcR.one fS
  have e2 := fmlR.one fF
  have e3 := edtR.one fD
  obtain ⟨s0, s1, rfl⟩ := cells2 l1
  obtain ⟨g0, g1, g2, g3, g4, rfl⟩ := cells5 l2
  obtain ⟨d0, d1, d2, d3, d4, d5, d6, d7, d8, rfl⟩ := cells9 l3
  refine ⟨k, oS, oF, oD, s0, s1, g0, g1, g2, g3, g4, d0, d1, d2, d3, d4, d5, d6, d7, d8, pS, pF, pD, hv, rfl, ?_⟩
  intro u hu
  have hu' : u ∈ [s0, s1] ++ ([g0, g1, g2, g3, g4] ++ ([d0, d1, d2, d3, d4, d5, d6, d7, d8] ++ [Value.int .i64 (Out.errno oS), .int .i64 (Out.errno oF), .int .i64 (Out.errno oD), .int .i64 (Out.loc oS), .int .i64 (Out.loc oF), .int .i64 (Out.loc oD)])) := hu
  rcases List.mem_append.1 hu' with h | h
  · exact e1 u h
  rcases List.mem_append.1 h with h | h
  · exact e2 u h
  rcases List.mem_append.1 h with h | h
  · exact e3 u h
  simp only [List.mem_cons, List.not_mem_nil, or_false] at h
  rcases h with rfl | rfl | rfl | rfl | rfl | rfl <;> rfl
theorem early_ok (w : World) (e : Int) : Fn Tryz.prog 15 [.int .i64 e] w fun v w' => v = .bool (decide (e = 0 ∨ e = 51)) ∧ w' = w := by
  refine fn_of_wc Tryz.func15 rfl Tryz.ntmps15 (Nat.le_of_ble_eq_true rfl) (by kernel_rfl) ?_
  repeat' first | refine nx ?_ | refine C_cond_t rfl ?_ | refine C_cond_f rfl ?_ | refine Q_block_on rfl ?_
  (refine C_region ?_
   <;> (refine M_assign ?_; (first | refine M_bool rfl ?_ | refine W_move ?_))
   <;> refine W_nil ?_)
  repeat' first | refine nx ?_ | refine C_cond_t rfl ?_ | refine C_cond_f rfl ?_ | refine Q_block_on rfl ?_
  by_cases h0 : e = 0
  · (refine C_region ?_
     <;> (first | refine M_int rfl ?_ | refine W_move ?_)
     <;> (refine W_eql rfl rfl (fun hc => ?_) (fun hc => ?_) <;> try (exfalso; omega))
     <;> (first | refine M_bool rfl ?_ | refine W_move ?_)
     <;> (first | refine W_no rfl ?_ | (refine W_yes rfl ?_; (first | refine M_int rfl ?_ | refine W_move ?_)))
     <;> (first | refine W_no rfl ?_ | (refine W_yes rfl ?_; (refine W_eql rfl rfl (fun hc => ?_) (fun hc => ?_) <;> try (exfalso; omega))))
     <;> ((first | refine M_pick_t rfl ?_ | refine M_pick_f rfl ?_); (first | refine M_bool rfl ?_ | refine W_move ?_))
     <;> (refine M_assign ?_; (first | refine M_bool rfl ?_ | refine W_move ?_))
     <;> refine W_nil ?_)
    repeat' first | refine nx ?_ | refine C_cond_t rfl ?_ | refine C_cond_f rfl ?_ | refine Q_block_on rfl ?_
    exact fin_ret1 rfl ⟨by rw [decide_eq_true (.inl h0)]; rfl, rfl⟩
  · by_cases h1 : e = 51
    · (refine C_region ?_
       <;> (first | refine M_int rfl ?_ | refine W_move ?_)
       <;> (refine W_eql rfl rfl (fun hc => ?_) (fun hc => ?_) <;> try (exfalso; omega))
       <;> (first | refine M_bool rfl ?_ | refine W_move ?_)
       <;> (first | refine W_no rfl ?_ | (refine W_yes rfl ?_; (first | refine M_int rfl ?_ | refine W_move ?_)))
       <;> (first | refine W_no rfl ?_ | (refine W_yes rfl ?_; (refine W_eql rfl rfl (fun hc => ?_) (fun hc => ?_) <;> try (exfalso; omega))))
       <;> ((first | refine M_pick_t rfl ?_ | refine M_pick_f rfl ?_); (first | refine M_bool rfl ?_ | refine W_move ?_))
       <;> (refine M_assign ?_; (first | refine M_bool rfl ?_ | refine W_move ?_))
       <;> refine W_nil ?_)
      repeat' first | refine nx ?_ | refine C_cond_t rfl ?_ | refine C_cond_f rfl ?_ | refine Q_block_on rfl ?_
      exact fin_ret1 rfl ⟨by rw [decide_eq_true (.inr h1)]; rfl, rfl⟩
    · (refine C_region ?_
       <;> (first | refine M_int rfl ?_ | refine W_move ?_)
       <;> (refine W_eql rfl rfl (fun hc => ?_) (fun hc => ?_) <;> try (exfalso; omega))
       <;> (first | refine M_bool rfl ?_ | refine W_move ?_)
       <;> (first | refine W_no rfl ?_ | (refine W_yes rfl ?_; (first | refine M_int rfl ?_ | refine W_move ?_)))
       <;> (first | refine W_no rfl ?_ | (refine W_yes rfl ?_; (refine W_eql rfl rfl (fun hc => ?_) (fun hc => ?_) <;> try (exfalso; omega))))
       <;> ((first | refine M_pick_t rfl ?_ | refine M_pick_f rfl ?_); (first | refine M_bool rfl ?_ | refine W_move ?_))
       <;> (refine M_assign ?_; (first | refine M_bool rfl ?_ | refine W_move ?_))
       <;> refine W_nil ?_)
      repeat' first | refine nx ?_ | refine C_cond_t rfl ?_ | refine C_cond_f rfl ?_ | refine Q_block_on rfl ?_
      exact fin_ret1 rfl ⟨by rw [decide_eq_false (by omega)]; rfl, rfl⟩

set_option maxHeartbeats 3200000 in
set_option maxRecDepth 20000 in
theorem first_ok (w : World) (t : List UInt8) (hG : GK w) : Fn Tryz.prog 4 [strV t] w fun v w' => v = .bool true ∧ Ext w w' := by
  refine fn_of_wc Tryz.func4 rfl Tryz.ntmps4 (Nat.le_of_ble_eq_true rfl) (by kernel_rfl) ?_
  repeat' first | refine nx ?_ | refine C_cond_t rfl ?_ | refine C_cond_f rfl ?_ | refine Q_block_on rfl ?_
  (refine C_region ?_
   <;> (refine M_assign ?_; (first | refine M_bool rfl ?_ | refine W_move ?_))
   <;> refine W_nil ?_)
  repeat' first | refine nx ?_ | refine C_cond_t rfl ?_ | refine C_cond_f rfl ?_ | refine Q_block_on rfl ?_
  (refine C_region ?_)
  -- at operation 0: <dst=(some 12) op=(call <callee=(value (func 9)) args=[] argTypes=[]>) type=4 guard=none>
  refine W_call (head_ok w hG) rfl ?_
  rintro v w1 ⟨rfl, k1⟩
  ((refine M_assign ?_; (first | refine M_bool rfl ?_ | refine W_move ?_))
   <;> refine W_nil ?_)
  repeat' first | refine nx ?_ | refine C_cond_t rfl ?_ | refine C_cond_f rfl ?_ | refine Q_block_on rfl ?_
  by_cases hs : 6000 < t.length
  · (refine C_region ?_
     <;> (first | refine M_str rfl ?_ | refine W_move ?_)
     <;> refine W_slen rfl ?_
     <;> (refine W_gtr rfl rfl (fun hc => ?_) (fun hc => ?_) <;> try (exfalso; omega))
     <;> refine W_nil ?_)
    repeat' first | refine nx ?_ | refine C_cond_t rfl ?_ | refine C_cond_f rfl ?_ | refine Q_block_on rfl ?_
    (refine C_region ?_
     <;> (first | refine M_bool rfl ?_ | refine W_move ?_)
     <;> (refine M_assign ?_; (first | refine M_bool rfl ?_ | refine W_move ?_))
     <;> refine W_nil ?_)
    repeat' first | refine nx ?_ | refine C_cond_t rfl ?_ | refine C_cond_f rfl ?_ | refine Q_block_on rfl ?_
    exact fin_ret1 rfl ⟨rfl, k1⟩
  (refine C_region ?_
   <;> (first | refine M_str rfl ?_ | refine W_move ?_)
   <;> refine W_slen rfl ?_
   <;> (refine W_gtr rfl rfl (fun hc => ?_) (fun hc => ?_) <;> try (exfalso; omega))
   <;> refine W_nil ?_)
  repeat' first | refine nx ?_ | refine C_cond_t rfl ?_ | refine C_cond_f rfl ?_ | refine Q_block_on rfl ?_
  (refine C_region ?_
   <;> (first | refine M_str rfl ?_ | refine W_move ?_))
  -- at operation 1: <dst=(some 19) op=(call <callee=(value (func 10)) args=[(tmp 18)] argTypes=[9]>) type=26 guard=none>
  refine W_call (reflex_ok w1 t) rfl ?_
  rintro _ wl ⟨a, c, e, q, ts, rfl, kl, hT, h⟩
  have k2 := k1.trans kl
  ((first | refine M_tuple rfl ?_ | refine W_move ?_)
   <;> refine W_extract rfl rfl ?_
   <;> refine W_extract rfl rfl ?_
   <;> refine W_extract rfl rfl ?_
   <;> (refine M_assign ?_; (first | refine M_slice rfl ?_ | refine W_move ?_))
   <;> (refine M_assign ?_; (first | refine M_int rfl ?_ | refine W_move ?_))
   <;> (refine M_assign ?_; (first | refine M_int rfl ?_ | refine W_move ?_))
   <;> refine W_nil ?_)
  repeat' first | refine nx ?_ | refine C_cond_t rfl ?_ | refine C_cond_f rfl ?_ | refine Q_block_on rfl ?_
  rcases h with ⟨hm, rfl, rfl⟩ | ⟨p, hm, he, rfl, rfl⟩
  case inr =>
    (refine C_region ?_
     <;> (first | refine M_int rfl ?_ | refine W_move ?_)
     <;> (refine W_neq rfl rfl (fun hc => ?_) (fun hc => ?_) <;> try (exfalso; omega))
     <;> (first | refine M_bool rfl ?_ | refine W_move ?_)
     <;> (first | refine W_no rfl ?_ | (refine W_yes rfl ?_; (first | refine M_slice rfl ?_ | refine W_move ?_)))
     <;> (first | refine W_no rfl ?_ | (refine W_yes rfl ?_; refine W_len rfl ?_))
     <;> (first | refine W_no rfl ?_ | (refine W_yes rfl ?_; (refine W_gtr rfl rfl (fun hc => ?_) (fun hc => ?_) <;> try (exfalso; omega))))
     <;> ((first | refine M_pick_t rfl ?_ | refine M_pick_f rfl ?_); (first | refine M_bool rfl ?_ | refine W_move ?_))
     <;> refine W_nil ?_)
    repeat' first | refine nx ?_ | refine C_cond_t rfl ?_ | refine C_cond_f rfl ?_ | refine Q_block_on rfl ?_
    (refine C_region ?_
     <;> (first | refine M_bool rfl ?_ | refine W_move ?_)
     <;> (refine M_assign ?_; (first | refine M_bool rfl ?_ | refine W_move ?_))
     <;> refine W_nil ?_)
    repeat' first | refine nx ?_ | refine C_cond_t rfl ?_ | refine C_cond_f rfl ?_ | refine Q_block_on rfl ?_
    exact fin_ret1 rfl ⟨rfl, k2⟩
  by_cases h60 : 60 < ts.length
  · (refine C_region ?_
     <;> (first | refine M_int rfl ?_ | refine W_move ?_)
     <;> (refine W_neq rfl rfl (fun hc => ?_) (fun hc => ?_) <;> try (exfalso; omega))
     <;> (first | refine M_bool rfl ?_ | refine W_move ?_)
     <;> (first | refine W_no rfl ?_ | (refine W_yes rfl ?_; (first | refine M_slice rfl ?_ | refine W_move ?_)))
     <;> (first | refine W_no rfl ?_ | (refine W_yes rfl ?_; refine W_len rfl ?_))
     <;> (first | refine W_no rfl ?_ | (refine W_yes rfl ?_; (refine W_gtr rfl rfl (fun hc => ?_) (fun hc => ?_) <;> try (exfalso; omega))))
     <;> ((first | refine M_pick_t rfl ?_ | refine M_pick_f rfl ?_); (first | refine M_bool rfl ?_ | refine W_move ?_))
     <;> refine W_nil ?_)
    repeat' first | refine nx ?_ | refine C_cond_t rfl ?_ | refine C_cond_f rfl ?_ | refine Q_block_on rfl ?_
    (refine C_region ?_
     <;> (first | refine M_bool rfl ?_ | refine W_move ?_)
     <;> (refine M_assign ?_; (first | refine M_bool rfl ?_ | refine W_move ?_))
     <;> refine W_nil ?_)
    repeat' first | refine nx ?_ | refine C_cond_t rfl ?_ | refine C_cond_f rfl ?_ | refine Q_block_on rfl ?_
    exact fin_ret1 rfl ⟨rfl, k2⟩
  (refine C_region ?_
   <;> (first | refine M_int rfl ?_ | refine W_move ?_)
   <;> (refine W_neq rfl rfl (fun hc => ?_) (fun hc => ?_) <;> try (exfalso; omega))
   <;> (first | refine M_bool rfl ?_ | refine W_move ?_)
   <;> (first | refine W_no rfl ?_ | (refine W_yes rfl ?_; (first | refine M_slice rfl ?_ | refine W_move ?_)))
   <;> (first | refine W_no rfl ?_ | (refine W_yes rfl ?_; refine W_len rfl ?_))
   <;> (first | refine W_no rfl ?_ | (refine W_yes rfl ?_; (refine W_gtr rfl rfl (fun hc => ?_) (fun hc => ?_) <;> try (exfalso; omega))))
   <;> ((first | refine M_pick_t rfl ?_ | refine M_pick_f rfl ?_); (first | refine M_bool rfl ?_ | refine W_move ?_))
   <;> refine W_nil ?_)
  repeat' first | refine nx ?_ | refine C_cond_t rfl ?_ | refine C_cond_f rfl ?_ | refine Q_block_on rfl ?_
  (refine C_region ?_
   <;> (first | refine M_str rfl ?_ | refine W_move ?_))
  -- at operation 1: <dst=(some 32) op=(call <callee=(value (func 12)) args=[(tmp 31)] argTypes=[9]>) type=45 guard=none>
  refine W_call (parsed_form wl t (hG.ext k2)) rfl ?_
  rintro _ w3 ⟨k3, oS, oF, oD, x0, x1, x2, x3, x4, x5, x6, x7, x8, x9, xa, xb, xc, xd, xe, xf, pS, pF, pD, _, rfl, hone⟩
  skip
  -- at operation 2: <dst=(some 7) op=(alloc 45) type=0 guard=none>
  refine W_newAgg (cs := [x0, x1, x2, x3, x4, x5, x6, x7, x8, x9, xa, xb, xc, xd, xe, xf, .int .i64 oS.errno, .int .i64 oF.errno, .int .i64 oD.errno, .int .i64 oS.loc, .int .i64 oF.loc, .int .i64 oD.loc]) rfl rfl (by rfl) hone (fun w4 n4 => ?_)
  have b4 := n4.blk
  have k4 : Ext wl w4 := k3.trans n4.keep
  have hT4 := hT.ext k4
  have k24 := k2.trans k4
  refine W_nil ?_
  repeat' first | refine nx ?_ | refine C_cond_t rfl ?_ | refine C_cond_f rfl ?_ | refine Q_block_on rfl ?_
  have eS := end_loc pS hm
  have eF := end_loc pF hm
  have eD := end_loc pD hm
  refine C_mid (α := Unit) (fun _ => [(0, strV t), (3, .bool true), (4, .slice a ts.length c), (7, pt w3.heap.size), (66, .bool false)]) (fun _ W => w4 = W) ?_ ?_
  · by_cases q1 : oS.errno = 51 <;> by_cases q2 : oF.errno = 51 <;> by_cases q3 : oD.errno = 51
    all_goals
      first | have eS := eS q1 | skip
      first | have eF := eF q2 | skip
      first | have eD := eD q3 | skip
      (refine C_region ?_
       <;> refine W_fieldAddr rfl ?_
       <;> (first | refine W_load rfl (Blk.cell (by assumption) (by rfl)) ?_ | refine W_load rfl (by assumption) ?_)
       <;> (refine W_eql rfl rfl (fun hc => ?_) (fun hc => ?_) <;> try (exfalso; omega))
       <;> (first | refine M_bool rfl ?_ | refine W_move ?_)
       <;> (first | refine W_no rfl ?_ | (refine W_yes rfl ?_; refine W_fieldAddr rfl ?_))
       <;> (first | refine W_no rfl ?_ | (refine W_yes rfl ?_; (first | refine W_load rfl (Blk.cell (by assumption) (by rfl)) ?_ | refine W_load rfl (by assumption) ?_)))
       <;> (first | refine W_no rfl ?_ | (refine W_yes rfl ?_; (first | refine M_str rfl ?_ | refine W_move ?_)))
       <;> (first | refine W_no rfl ?_ | (refine W_yes rfl ?_; refine W_slen rfl ?_))
       <;> (first | refine W_no rfl ?_ | (refine W_yes rfl ?_; (refine W_neq rfl rfl (fun hc => ?_) (fun hc => ?_) <;> try (exfalso; omega))))
       <;> ((first | refine M_pick_t rfl ?_ | refine M_pick_f rfl ?_); (first | refine M_bool rfl ?_ | refine W_move ?_))
       <;> (first | refine M_bool rfl ?_ | refine W_move ?_)
       <;> (first | refine W_no rfl ?_ | (refine W_yes rfl ?_; refine W_fieldAddr rfl ?_))
       <;> (first | refine W_no rfl ?_ | (refine W_yes rfl ?_; (first | refine W_load rfl (Blk.cell (by assumption) (by rfl)) ?_ | refine W_load rfl (by assumption) ?_)))
       <;> (first | refine W_no rfl ?_ | (refine W_yes rfl ?_; (refine W_eql rfl rfl (fun hc => ?_) (fun hc => ?_) <;> try (exfalso; omega))))
       <;> (first | refine W_no rfl ?_ | (refine W_yes rfl ?_; (first | refine M_bool rfl ?_ | refine W_move ?_)))
       <;> (first | refine W_no rfl ?_ | (refine W_yes rfl ?_; refine W_fieldAddr rfl ?_))
       <;> (first | refine W_no rfl ?_ | (refine W_yes rfl ?_; (first | refine W_load rfl (Blk.cell (by assumption) (by rfl)) ?_ | refine W_load rfl (by assumption) ?_)))
       <;> (first | refine W_no rfl ?_ | (refine W_yes rfl ?_; (first | refine M_str rfl ?_ | refine W_move ?_)))
       <;> (first | refine W_no rfl ?_ | (refine W_yes rfl ?_; refine W_slen rfl ?_))
       <;> (first | refine W_no rfl ?_ | (refine W_yes rfl ?_; (refine W_neq rfl rfl (fun hc => ?_) (fun hc => ?_) <;> try (exfalso; omega))))
       <;> (first | refine W_no rfl ?_ | (refine W_yes rfl ?_; ((first | refine M_pick_t rfl ?_ | refine M_pick_f rfl ?_); (first | refine M_bool rfl ?_ | refine W_move ?_))))
       <;> ((first | refine M_pick_t rfl ?_ | refine M_pick_f rfl ?_); (first | refine M_bool rfl ?_ | refine W_move ?_))
       <;> (first | refine M_bool rfl ?_ | refine W_move ?_)
       <;> (first | refine W_no rfl ?_ | (refine W_yes rfl ?_; refine W_fieldAddr rfl ?_))
       <;> (first | refine W_no rfl ?_ | (refine W_yes rfl ?_; (first | refine W_load rfl (Blk.cell (by assumption) (by rfl)) ?_ | refine W_load rfl (by assumption) ?_)))
       <;> (first | refine W_no rfl ?_ | (refine W_yes rfl ?_; (refine W_eql rfl rfl (fun hc => ?_) (fun hc => ?_) <;> try (exfalso; omega))))
       <;> (first | refine W_no rfl ?_ | (refine W_yes rfl ?_; (first | refine M_bool rfl ?_ | refine W_move ?_)))
       <;> (first | refine W_no rfl ?_ | (refine W_yes rfl ?_; refine W_fieldAddr rfl ?_))
       <;> (first | refine W_no rfl ?_ | (refine W_yes rfl ?_; (first | refine W_load rfl (Blk.cell (by assumption) (by rfl)) ?_ | refine W_load rfl (by assumption) ?_)))
       <;> (first | refine W_no rfl ?_ | (refine W_yes rfl ?_; (first | refine M_str rfl ?_ | refine W_move ?_)))
       <;> (first | refine W_no rfl ?_ | (refine W_yes rfl ?_; refine W_slen rfl ?_))
       <;> (first | refine W_no rfl ?_ | (refine W_yes rfl ?_; (refine W_neq rfl rfl (fun hc => ?_) (fun hc => ?_) <;> try (exfalso; omega))))
       <;> (first | refine W_no rfl ?_ | (refine W_yes rfl ?_; ((first | refine M_pick_t rfl ?_ | refine M_pick_f rfl ?_); (first | refine M_bool rfl ?_ | refine W_move ?_))))
       <;> ((first | refine M_pick_t rfl ?_ | refine M_pick_f rfl ?_); (first | refine M_bool rfl ?_ | refine W_move ?_))
       <;> refine W_nil ?_)
      exact Q_join () ⟨rfl, rfl, rfl, rfl, rfl, trivial⟩ rfl
  rintro _ _ f4 rfl
  repeat' first | refine nx ?_ | refine C_cond_t rfl ?_ | refine C_cond_f rfl ?_ | refine Q_block_on rfl ?_
  (refine C_region ?_
   <;> (refine M_assign ?_; (first | refine M_int rfl ?_ | refine W_move ?_))
   <;> refine W_nil ?_)
  repeat' first | refine nx ?_ | refine C_cond_t rfl ?_ | refine C_cond_f rfl ?_ | refine Q_block_on rfl ?_
  refine C_loop (α := Nat) (fun k => [(0, strV t), (3, .bool true), (4, .slice a ts.length c), (7, pt w3.heap.size), (8, .int .i64 (k : Int))])
    (fun k W => k ≤ ts.length ∧ Ext w4 W) (fun k => ts.length - k) 0 ⟨rfl, rfl, rfl, rfl, rfl, trivial⟩ ⟨by simp, Ext.refl _⟩ ?_
  rintro k w5 f5 ⟨hk, k5⟩
  repeat' first | refine nx ?_ | refine C_cond_t rfl ?_ | refine C_cond_f rfl ?_ | refine Q_block_on rfl ?_
  by_cases hlt : k < ts.length
  · obtain ⟨x, hx⟩ : ∃ x, ts[k]? = some x := ⟨_, List.getElem?_eq_getElem hlt⟩
    obtain ⟨b, o, rfl, hc⟩ := (hT4.ext k5).at hx
    have hc1 := hc 1 _ rfl
    have hc2 := hc 2 _ rfl
    obtain ⟨hxl, _⟩ := lexM_upto hm hx
    have b5 := b4.keep k5 (by simp)
    have hcap : ts.length ≤ c ∧ c ≤ 9223372036854775807 := by obtain ⟨_, _, hv, h1, h2, _⟩ := id hT; cases hv; exact ⟨h1, h2⟩
    (refine C_region ?_
     <;> (first | refine M_int rfl ?_ | refine W_move ?_)
     <;> (first | refine M_slice rfl ?_ | refine W_move ?_)
     <;> refine W_len rfl ?_
     <;> (refine W_lss rfl rfl (fun hc => ?_) (fun hc => ?_) <;> try (exfalso; omega))
     <;> refine W_nil ?_)
    repeat' first | refine nx ?_ | refine C_cond_t rfl ?_ | refine C_cond_f rfl ?_ | refine Q_block_on rfl ?_
    (refine C_region ?_
     <;> (first | refine M_slice rfl ?_ | refine W_move ?_)
     <;> (first | refine M_int rfl ?_ | refine W_move ?_)
     <;> (first | refine W_idx1 rfl rfl rfl (by omega) ?_ | refine W_idx rfl rfl rfl (by omega) ?_ | refine W_indexAddr rfl rfl (by omega) (by omega) ?_)
     <;> refine W_fieldAddr rfl ?_
     <;> (first | refine W_load rfl (Blk.cell (by assumption) (by rfl)) ?_ | refine W_load rfl (by assumption) ?_)
     <;> (refine M_assign ?_; (first | refine M_int rfl ?_ | refine W_move ?_))
     <;> refine W_nil ?_)
    repeat' first | refine nx ?_ | refine C_cond_t rfl ?_ | refine C_cond_f rfl ?_ | refine Q_block_on rfl ?_
    (refine C_region ?_
     <;> (first | refine M_str rfl ?_ | refine W_move ?_)
     <;> (first | refine M_int rfl ?_ | refine W_move ?_)
     <;> (first | refine M_slice rfl ?_ | refine W_move ?_)
     <;> (first | refine M_int rfl ?_ | refine W_move ?_)
     <;> (first | refine W_idx1 rfl rfl rfl (by omega) ?_ | refine W_idx rfl rfl rfl (by omega) ?_ | refine W_indexAddr rfl rfl (by omega) (by omega) ?_)
     <;> refine W_fieldAddr rfl ?_
     <;> (first | refine W_load rfl (Blk.cell (by assumption) (by rfl)) ?_ | refine W_load rfl (by assumption) ?_)
     <;> refine W_slen rfl ?_
     <;> refine W_add rfl rfl (by first | exact inR_i64 (by omega) (by omega) | exact inR_u8 (by omega) (by omega) | exact inR_u16 (by omega) (by omega)) ?_)
    refine W_sslice_h (l := x.loc + x.text.length) rfl rfl hxl ?_
    refine W_call (parsed_form w5 (t.take (x.loc + x.text.length)) (hG.ext (k24.trans k5))) rfl ?_
    rintro _ v1 ⟨l1, oS1, oF1, oD1, y0, y1, y2, y3, y4, y5, y6, y7, y8, y9, ya, yb, yc, yd, ye, yf, pS1, pF1, pD1, _, rfl, hone1⟩
    skip
    -- at operation 11: <dst=(some 10) op=(alloc 45) type=0 guard=none>
    refine W_newAgg (cs := [y0, y1, y2, y3, y4, y5, y6, y7, y8, y9, ya, yb, yc, yd, ye, yf, .int .i64 oS1.errno, .int .i64 oF1.errno, .int .i64 oD1.errno, .int .i64 oS1.loc, .int .i64 oF1.loc, .int .i64 oD1.loc]) rfl rfl (by rfl) hone1 (fun v2 m2 => ?_)
    have c2 := m2.blk
    have l2 := l1.trans m2.keep
    refine W_nil ?_
    repeat' first | refine nx ?_ | refine C_cond_t rfl ?_ | refine C_cond_f rfl ?_ | refine Q_block_on rfl ?_
    (refine C_region ?_
     <;> (first | refine M_str rfl ?_ | refine W_move ?_)
     <;> (first | refine M_int rfl ?_ | refine W_move ?_))
    refine W_sslice_h (l := x.loc) rfl rfl (by omega) ?_
    refine W_call (parsed_form v2 (t.take x.loc) (hG.ext ((k24.trans k5).trans l2))) rfl ?_
    rintro _ v3 ⟨l3, oS2, oF2, oD2, z0, z1, z2, z3, z4, z5, z6, z7, z8, z9, za, zb, zc, zd, ze, zf, pS2, pF2, pD2, _, rfl, hone2⟩
    skip
    -- at operation 4: <dst=(some 11) op=(alloc 45) type=0 guard=none>
    refine W_newAgg (cs := [z0, z1, z2, z3, z4, z5, z6, z7, z8, z9, za, zb, zc, zd, ze, zf, .int .i64 oS2.errno, .int .i64 oF2.errno, .int .i64 oD2.errno, .int .i64 oS2.loc, .int .i64 oF2.loc, .int .i64 oD2.loc]) rfl rfl (by rfl) hone2 (fun v4 m4 => ?_)
    have d4 := m4.blk
    have l34 := l3.trans m4.keep
    have c4 := c2.keep l34 (by simp)
    have l4 := l2.trans l34
    have b6 := b5.keep l4 (by simp)
    refine W_nil ?_
    repeat' first | refine nx ?_ | refine C_cond_t rfl ?_ | refine C_cond_f rfl ?_ | refine Q_block_on rfl ?_
    have fS := first_error pS hm hx pS1 pS2
    have fF := first_error pF hm hx pF1 pF2
    have fD := first_error pD hm hx pD1 pD2
    clear eS eF eD c2 b5 n4 m2 m4 hone hone1 hone2
    refine C_mid (α := Unit) (fun _ => [(0, strV t), (3, .bool true), (4, .slice (some ⟨b, o, none⟩) ts.length c), (7, pt w3.heap.size), (8, .int .i64 (k : Int)), (9, .int .i64 (x.loc : Int)), (10, pt v1.heap.size), (11, pt v3.heap.size), (120, .bool false)]) (fun _ W => v4 = W) ?_ ?_
    · by_cases hA : oS.errno = 50 ∧ oS.loc = x.loc
      · obtain ⟨f1, f2, f3⟩ := fS hA.1 hA.2
        (refine C_region ?_
         <;> refine W_fieldAddr rfl ?_
         <;> (first | refine W_load rfl (Blk.cell (by assumption) (by rfl)) ?_ | refine W_load rfl (by assumption) ?_)
         <;> (refine W_eql rfl rfl (fun hc => ?_) (fun hc => ?_) <;> try (exfalso; omega))
         <;> (first | refine M_bool rfl ?_ | refine W_move ?_)
         <;> (first | refine W_no rfl ?_ | (refine W_yes rfl ?_; refine W_fieldAddr rfl ?_))
         <;> (first | refine W_no rfl ?_ | (refine W_yes rfl ?_; (first | refine W_load rfl (Blk.cell (by assumption) (by rfl)) ?_ | refine W_load rfl (by assumption) ?_)))
         <;> (first | refine W_no rfl ?_ | (refine W_yes rfl ?_; (first | refine M_int rfl ?_ | refine W_move ?_)))
         <;> (first | refine W_no rfl ?_ | (refine W_yes rfl ?_; (refine W_eql rfl rfl (fun hc => ?_) (fun hc => ?_) <;> try (exfalso; omega))))
         <;> ((first | refine M_pick_t rfl ?_ | refine M_pick_f rfl ?_); (first | refine M_bool rfl ?_ | refine W_move ?_))
         <;> (first | refine M_bool rfl ?_ | refine W_move ?_)
         <;> (first | refine W_no rfl ?_ | (refine W_yes rfl ?_; refine W_fieldAddr rfl ?_))
         <;> (first | refine W_no rfl ?_ | (refine W_yes rfl ?_; (first | refine W_load rfl (Blk.cell (by assumption) (by rfl)) ?_ | refine W_load rfl (by assumption) ?_)))
         <;> (first | refine W_no rfl ?_ | (refine W_yes rfl ?_; refine W_fieldAddr rfl ?_))
         <;> (first | refine W_no rfl ?_ | (refine W_yes rfl ?_; (first | refine W_load rfl (Blk.cell (by assumption) (by rfl)) ?_ | refine W_load rfl (by assumption) ?_)))
         <;> (first | refine W_no rfl ?_ | (refine W_yes rfl ?_; (refine W_neq rfl rfl (fun hc => ?_) (fun hc => ?_) <;> try (exfalso; omega))))
         <;> (first | refine W_no rfl ?_ | (refine W_yes rfl ?_; (first | refine M_bool rfl ?_ | refine W_move ?_)))
         <;> (first | refine W_no rfl ?_ | (refine W_yes rfl ?_; refine W_fieldAddr rfl ?_))
         <;> (first | refine W_no rfl ?_ | (refine W_yes rfl ?_; (first | refine W_load rfl (Blk.cell (by assumption) (by rfl)) ?_ | refine W_load rfl (by assumption) ?_)))
         <;> (first | refine W_no rfl ?_ | (refine W_yes rfl ?_; (first | refine M_int rfl ?_ | refine W_move ?_)))
         <;> (first | refine W_no rfl ?_ | (refine W_yes rfl ?_; (refine W_neq rfl rfl (fun hc => ?_) (fun hc => ?_) <;> try (exfalso; omega))))
         <;> (first | refine W_no rfl ?_ | (refine W_yes rfl ?_; ((first | refine M_pick_t rfl ?_ | refine M_pick_f rfl ?_); (first | refine M_bool rfl ?_ | refine W_move ?_))))
         <;> (first | refine W_no rfl ?_ | (refine W_yes rfl ?_; (first | refine M_bool rfl ?_ | refine W_move ?_)))
         <;> (first | refine W_no rfl ?_ | (refine W_yes rfl ?_; refine W_fieldAddr rfl ?_))
         <;> (first | refine W_no rfl ?_ | (refine W_yes rfl ?_; (first | refine W_load rfl (Blk.cell (by assumption) (by rfl)) ?_ | refine W_load rfl (by assumption) ?_))))
        (refine W_yes rfl ?_; refine W_call (early_ok v4 oS2.errno) rfl ?_)
        rintro _ v5 ⟨rfl, rfl⟩
        rw [decide_eq_true f3]
        ((first | refine W_no rfl ?_ | (refine W_yes rfl ?_; refine W_not rfl ?_))
         <;> (first | refine W_no rfl ?_ | (refine W_yes rfl ?_; ((first | refine M_pick_t rfl ?_ | refine M_pick_f rfl ?_); (first | refine M_bool rfl ?_ | refine W_move ?_))))
         <;> ((first | refine M_pick_t rfl ?_ | refine M_pick_f rfl ?_); (first | refine M_bool rfl ?_ | refine W_move ?_))
         <;> refine W_nil ?_)
        exact Q_join () ⟨rfl, rfl, rfl, rfl, rfl, rfl, rfl, rfl, rfl, trivial⟩ rfl
      · by_cases hB : oS.errno = 50
        · have hC : oS.loc ≠ x.loc := fun h => hA ⟨hB, h⟩
          (refine C_region ?_
           <;> refine W_fieldAddr rfl ?_
           <;> (first | refine W_load rfl (Blk.cell (by assumption) (by rfl)) ?_ | refine W_load rfl (by assumption) ?_)
           <;> (refine W_eql rfl rfl (fun hc => ?_) (fun hc => ?_) <;> try (exfalso; omega))
           <;> (first | refine M_bool rfl ?_ | refine W_move ?_)
           <;> (first | refine W_no rfl ?_ | (refine W_yes rfl ?_; refine W_fieldAddr rfl ?_))
           <;> (first | refine W_no rfl ?_ | (refine W_yes rfl ?_; (first | refine W_load rfl (Blk.cell (by assumption) (by rfl)) ?_ | refine W_load rfl (by assumption) ?_)))
           <;> (first | refine W_no rfl ?_ | (refine W_yes rfl ?_; (first | refine M_int rfl ?_ | refine W_move ?_)))
           <;> (first | refine W_no rfl ?_ | (refine W_yes rfl ?_; (refine W_eql rfl rfl (fun hc => ?_) (fun hc => ?_) <;> try (exfalso; omega))))
           <;> ((first | refine M_pick_t rfl ?_ | refine M_pick_f rfl ?_); (first | refine M_bool rfl ?_ | refine W_move ?_))
           <;> (first | refine M_bool rfl ?_ | refine W_move ?_)
           <;> (first | refine W_no rfl ?_ | (refine W_yes rfl ?_; refine W_fieldAddr rfl ?_))
           <;> (first | refine W_no rfl ?_ | (refine W_yes rfl ?_; (first | refine W_load rfl (Blk.cell (by assumption) (by rfl)) ?_ | refine W_load rfl (by assumption) ?_)))
           <;> (first | refine W_no rfl ?_ | (refine W_yes rfl ?_; refine W_fieldAddr rfl ?_))
           <;> (first | refine W_no rfl ?_ | (refine W_yes rfl ?_; (first | refine W_load rfl (Blk.cell (by assumption) (by rfl)) ?_ | refine W_load rfl (by assumption) ?_)))
           <;> (first | refine W_no rfl ?_ | (refine W_yes rfl ?_; (refine W_neq rfl rfl (fun hc => ?_) (fun hc => ?_) <;> try (exfalso; omega))))
           <;> (first | refine W_no rfl ?_ | (refine W_yes rfl ?_; (first | refine M_bool rfl ?_ | refine W_move ?_)))
           <;> (first | refine W_no rfl ?_ | (refine W_yes rfl ?_; refine W_fieldAddr rfl ?_))
           <;> (first | refine W_no rfl ?_ | (refine W_yes rfl ?_; (first | refine W_load rfl (Blk.cell (by assumption) (by rfl)) ?_ | refine W_load rfl (by assumption) ?_)))
           <;> (first | refine W_no rfl ?_ | (refine W_yes rfl ?_; (first | refine M_int rfl ?_ | refine W_move ?_)))
           <;> (first | refine W_no rfl ?_ | (refine W_yes rfl ?_; (refine W_neq rfl rfl (fun hc => ?_) (fun hc => ?_) <;> try (exfalso; omega))))
           <;> (first | refine W_no rfl ?_ | (refine W_yes rfl ?_; ((first | refine M_pick_t rfl ?_ | refine M_pick_f rfl ?_); (first | refine M_bool rfl ?_ | refine W_move ?_))))
           <;> (first | refine W_no rfl ?_ | (refine W_yes rfl ?_; (first | refine M_bool rfl ?_ | refine W_move ?_)))
           <;> (first | refine W_no rfl ?_ | (refine W_yes rfl ?_; refine W_fieldAddr rfl ?_))
           <;> (first | refine W_no rfl ?_ | (refine W_yes rfl ?_; (first | refine W_load rfl (Blk.cell (by assumption) (by rfl)) ?_ | refine W_load rfl (by assumption) ?_))))
          (refine W_no rfl ?_
           <;> (first | refine W_no rfl ?_ | (refine W_yes rfl ?_; refine W_not rfl ?_))
           <;> (first | refine W_no rfl ?_ | (refine W_yes rfl ?_; ((first | refine M_pick_t rfl ?_ | refine M_pick_f rfl ?_); (first | refine M_bool rfl ?_ | refine W_move ?_))))
           <;> ((first | refine M_pick_t rfl ?_ | refine M_pick_f rfl ?_); (first | refine M_bool rfl ?_ | refine W_move ?_))
           <;> refine W_nil ?_)
          exact Q_join () ⟨rfl, rfl, rfl, rfl, rfl, rfl, rfl, rfl, rfl, trivial⟩ rfl
        · (refine C_region ?_
           <;> refine W_fieldAddr rfl ?_
           <;> (first | refine W_load rfl (Blk.cell (by assumption) (by rfl)) ?_ | refine W_load rfl (by assumption) ?_)
           <;> (refine W_eql rfl rfl (fun hc => ?_) (fun hc => ?_) <;> try (exfalso; omega))
           <;> (first | refine M_bool rfl ?_ | refine W_move ?_)
           <;> (first | refine W_no rfl ?_ | (refine W_yes rfl ?_; refine W_fieldAddr rfl ?_))
           <;> (first | refine W_no rfl ?_ | (refine W_yes rfl ?_; (first | refine W_load rfl (Blk.cell (by assumption) (by rfl)) ?_ | refine W_load rfl (by assumption) ?_)))
           <;> (first | refine W_no rfl ?_ | (refine W_yes rfl ?_; (first | refine M_int rfl ?_ | refine W_move ?_)))
           <;> (first | refine W_no rfl ?_ | (refine W_yes rfl ?_; (refine W_eql rfl rfl (fun hc => ?_) (fun hc => ?_) <;> try (exfalso; omega))))
           <;> ((first | refine M_pick_t rfl ?_ | refine M_pick_f rfl ?_); (first | refine M_bool rfl ?_ | refine W_move ?_))
           <;> (first | refine M_bool rfl ?_ | refine W_move ?_)
           <;> (first | refine W_no rfl ?_ | (refine W_yes rfl ?_; refine W_fieldAddr rfl ?_))
           <;> (first | refine W_no rfl ?_ | (refine W_yes rfl ?_; (first | refine W_load rfl (Blk.cell (by assumption) (by rfl)) ?_ | refine W_load rfl (by assumption) ?_)))
           <;> (first | refine W_no rfl ?_ | (refine W_yes rfl ?_; refine W_fieldAddr rfl ?_))
           <;> (first | refine W_no rfl ?_ | (refine W_yes rfl ?_; (first | refine W_load rfl (Blk.cell (by assumption) (by rfl)) ?_ | refine W_load rfl (by assumption) ?_)))
           <;> (first | refine W_no rfl ?_ | (refine W_yes rfl ?_; (refine W_neq rfl rfl (fun hc => ?_) (fun hc => ?_) <;> try (exfalso; omega))))
           <;> (first | refine W_no rfl ?_ | (refine W_yes rfl ?_; (first | refine M_bool rfl ?_ | refine W_move ?_)))
           <;> (first | refine W_no rfl ?_ | (refine W_yes rfl ?_; refine W_fieldAddr rfl ?_))
           <;> (first | refine W_no rfl ?_ | (refine W_yes rfl ?_; (first | refine W_load rfl (Blk.cell (by assumption) (by rfl)) ?_ | refine W_load rfl (by assumption) ?_)))
           <;> (first | refine W_no rfl ?_ | (refine W_yes rfl ?_; (first | refine M_int rfl ?_ | refine W_move ?_)))
           <;> (first | refine W_no rfl ?_ | (refine W_yes rfl ?_; (refine W_neq rfl rfl (fun hc => ?_) (fun hc => ?_) <;> try (exfalso; omega))))
           <;> (first | refine W_no rfl ?_ | (refine W_yes rfl ?_; ((first | refine M_pick_t rfl ?_ | refine M_pick_f rfl ?_); (first | refine M_bool rfl ?_ | refine W_move ?_))))
           <;> (first | refine W_no rfl ?_ | (refine W_yes rfl ?_; (first | refine M_bool rfl ?_ | refine W_move ?_)))
           <;> (first | refine W_no rfl ?_ | (refine W_yes rfl ?_; refine W_fieldAddr rfl ?_))
           <;> (first | refine W_no rfl ?_ | (refine W_yes rfl ?_; (first | refine W_load rfl (Blk.cell (by assumption) (by rfl)) ?_ | refine W_load rfl (by assumption) ?_))))
          (refine W_no rfl ?_
           <;> (first | refine W_no rfl ?_ | (refine W_yes rfl ?_; refine W_not rfl ?_))
           <;> (first | refine W_no rfl ?_ | (refine W_yes rfl ?_; ((first | refine M_pick_t rfl ?_ | refine M_pick_f rfl ?_); (first | refine M_bool rfl ?_ | refine W_move ?_))))
           <;> ((first | refine M_pick_t rfl ?_ | refine M_pick_f rfl ?_); (first | refine M_bool rfl ?_ | refine W_move ?_))
           <;> refine W_nil ?_)
          exact Q_join () ⟨rfl, rfl, rfl, rfl, rfl, rfl, rfl, rfl, rfl, trivial⟩ rfl
    rintro _ _ _ rfl
    repeat' first | refine nx ?_ | refine C_cond_t rfl ?_ | refine C_cond_f rfl ?_ | refine Q_block_on rfl ?_
    refine C_mid (α := Unit) (fun _ => [(0, strV t), (3, .bool true), (4, .slice (some ⟨b, o, none⟩) ts.length c), (7, pt w3.heap.size), (8, .int .i64 (k : Int)), (9, .int .i64 (x.loc : Int)), (10, pt v1.heap.size), (11, pt v3.heap.size), (148, .bool false)]) (fun _ W => v4 = W) ?_ ?_
    · by_cases hA : oF.errno = 50 ∧ oF.loc = x.loc
      · obtain ⟨f1, f2, f3⟩ := fF hA.1 hA.2
        (refine C_region ?_
         <;> refine W_fieldAddr rfl ?_
         <;> (first | refine W_load rfl (Blk.cell (by assumption) (by rfl)) ?_ | refine W_load rfl (by assumption) ?_)
         <;> (refine W_eql rfl rfl (fun hc => ?_) (fun hc => ?_) <;> try (exfalso; omega))
         <;> (first | refine M_bool rfl ?_ | refine W_move ?_)
         <;> (first | refine W_no rfl ?_ | (refine W_yes rfl ?_; refine W_fieldAddr rfl ?_))
         <;> (first | refine W_no rfl ?_ | (refine W_yes rfl ?_; (first | refine W_load rfl (Blk.cell (by assumption) (by rfl)) ?_ | refine W_load rfl (by assumption) ?_)))
         <;> (first | refine W_no rfl ?_ | (refine W_yes rfl ?_; (first | refine M_int rfl ?_ | refine W_move ?_)))
         <;> (first | refine W_no rfl ?_ | (refine W_yes rfl ?_; (refine W_eql rfl rfl (fun hc => ?_) (fun hc => ?_) <;> try (exfalso; omega))))
         <;> ((first | refine M_pick_t rfl ?_ | refine M_pick_f rfl ?_); (first | refine M_bool rfl ?_ | refine W_move ?_))
         <;> (first | refine M_bool rfl ?_ | refine W_move ?_)
         <;> (first | refine W_no rfl ?_ | (refine W_yes rfl ?_; refine W_fieldAddr rfl ?_))
         <;> (first | refine W_no rfl ?_ | (refine W_yes rfl ?_; (first | refine W_load rfl (Blk.cell (by assumption) (by rfl)) ?_ | refine W_load rfl (by assumption) ?_)))
         <;> (first | refine W_no rfl ?_ | (refine W_yes rfl ?_; refine W_fieldAddr rfl ?_))
         <;> (first | refine W_no rfl ?_ | (refine W_yes rfl ?_; (first | refine W_load rfl (Blk.cell (by assumption) (by rfl)) ?_ | refine W_load rfl (by assumption) ?_)))
         <;> (first | refine W_no rfl ?_ | (refine W_yes rfl ?_; (refine W_neq rfl rfl (fun hc => ?_) (fun hc => ?_) <;> try (exfalso; omega))))
         <;> (first | refine W_no rfl ?_ | (refine W_yes rfl ?_; (first | refine M_bool rfl ?_ | refine W_move ?_)))
         <;> (first | refine W_no rfl ?_ | (refine W_yes rfl ?_; refine W_fieldAddr rfl ?_))
         <;> (first | refine W_no rfl ?_ | (refine W_yes rfl ?_; (first | refine W_load rfl (Blk.cell (by assumption) (by rfl)) ?_ | refine W_load rfl (by assumption) ?_)))
         <;> (first | refine W_no rfl ?_ | (refine W_yes rfl ?_; (first | refine M_int rfl ?_ | refine W_move ?_)))
         <;> (first | refine W_no rfl ?_ | (refine W_yes rfl ?_; (refine W_neq rfl rfl (fun hc => ?_) (fun hc => ?_) <;> try (exfalso; omega))))
         <;> (first | refine W_no rfl ?_ | (refine W_yes rfl ?_; ((first | refine M_pick_t rfl ?_ | refine M_pick_f rfl ?_); (first | refine M_bool rfl ?_ | refine W_move ?_))))
         <;> (first | refine W_no rfl ?_ | (refine W_yes rfl ?_; (first | refine M_bool rfl ?_ | refine W_move ?_)))
         <;> (first | refine W_no rfl ?_ | (refine W_yes rfl ?_; refine W_fieldAddr rfl ?_))
         <;> (first | refine W_no rfl ?_ | (refine W_yes rfl ?_; (first | refine W_load rfl (Blk.cell (by assumption) (by rfl)) ?_ | refine W_load rfl (by assumption) ?_))))
        (refine W_yes rfl ?_; refine W_call (early_ok v4 oF2.errno) rfl ?_)
        rintro _ v5 ⟨rfl, rfl⟩
        rw [decide_eq_true f3]
        ((first | refine W_no rfl ?_ | (refine W_yes rfl ?_; refine W_not rfl ?_))
         <;> (first | refine W_no rfl ?_ | (refine W_yes rfl ?_; ((first | refine M_pick_t rfl ?_ | refine M_pick_f rfl ?_); (first | refine M_bool rfl ?_ | refine W_move ?_))))
         <;> ((first | refine M_pick_t rfl ?_ | refine M_pick_f rfl ?_); (first | refine M_bool rfl ?_ | refine W_move ?_))
         <;> refine W_nil ?_)
        exact Q_join () ⟨rfl, rfl, rfl, rfl, rfl, rfl, rfl, rfl, rfl, trivial⟩ rfl
      · by_cases hB : oF.errno = 50
        · have hC : oF.loc ≠ x.loc := fun h => hA ⟨hB, h⟩
          (refine C_region ?_
           <;> refine W_fieldAddr rfl ?_
           <;> (first | refine W_load rfl (Blk.cell (by assumption) (by rfl)) ?_ | refine W_load rfl (by assumption) ?_)
           <;> (refine W_eql rfl rfl (fun hc => ?_) (fun hc => ?_) <;> try (exfalso; omega))
           <;> (first | refine M_bool rfl ?_ | refine W_move ?_)
           <;> (first | refine W_no rfl ?_ | (refine W_yes rfl ?_; refine W_fieldAddr rfl ?_))
           <;> (first | refine W_no rfl ?_ | (refine W_yes rfl ?_; (first | refine W_load rfl (Blk.cell (by assumption) (by rfl)) ?_ | refine W_load rfl (by assumption) ?_)))
           <;> (first | refine W_no rfl ?_ | (refine W_yes rfl ?_; (first | refine M_int rfl ?_ | refine W_move ?_)))
           <;> (first | refine W_no rfl ?_ | (refine W_yes rfl ?_; (refine W_eql rfl rfl (fun hc => ?_) (fun hc => ?_) <;> try (exfalso; omega))))
           <;> ((first | refine M_pick_t rfl ?_ | refine M_pick_f rfl ?_); (first | refine M_bool rfl ?_ | refine W_move ?_))
           <;> (first | refine M_bool rfl ?_ | refine W_move ?_)
           <;> (first | refine W_no rfl ?_ | (refine W_yes rfl ?_; refine W_fieldAddr rfl ?_))
           <;> (first | refine W_no rfl ?_ | (refine W_yes rfl ?_; (first | refine W_load rfl (Blk.cell (by assumption) (by rfl)) ?_ | refine W_load rfl (by assumption) ?_)))
           <;> (first | refine W_no rfl ?_ | (refine W_yes rfl ?_; refine W_fieldAddr rfl ?_))
           <;> (first | refine W_no rfl ?_ | (refine W_yes rfl ?_; (first | refine W_load rfl (Blk.cell (by assumption) (by rfl)) ?_ | refine W_load rfl (by assumption) ?_)))
           <;> (first | refine W_no rfl ?_ | (refine W_yes rfl ?_; (refine W_neq rfl rfl (fun hc => ?_) (fun hc => ?_) <;> try (exfalso; omega))))
           <;> (first | refine W_no rfl ?_ | (refine W_yes rfl ?_; (first | refine M_bool rfl ?_ | refine W_move ?_)))
           <;> (first | refine W_no rfl ?_ | (refine W_yes rfl ?_; refine W_fieldAddr rfl ?_))
           <;> (first | refine W_no rfl ?_ | (refine W_yes rfl ?_; (first | refine W_load rfl (Blk.cell (by assumption) (by rfl)) ?_ | refine W_load rfl (by assumption) ?_)))
           <;> (first | refine W_no rfl ?_ | (refine W_yes rfl ?_; (first | refine M_int rfl ?_ | refine W_move ?_)))
           <;> (first | refine W_no rfl ?_ | (refine W_yes rfl ?_; (refine W_neq rfl rfl (fun hc => ?_) (fun hc => ?_) <;> try (exfalso; omega))))
           <;> (first | refine W_no rfl ?_ | (refine W_yes rfl ?_; ((first | refine M_pick_t rfl ?_ | refine M_pick_f rfl ?_); (first | refine M_bool rfl ?_ | refine W_move ?_))))
           <;> (first | refine W_no rfl ?_ | (refine W_yes rfl ?_; (first | refine M_bool rfl ?_ | refine W_move ?_)))
           <;> (first | refine W_no rfl ?_ | (refine W_yes rfl ?_; refine W_fieldAddr rfl ?_))
           <;> (first | refine W_no rfl ?_ | (refine W_yes rfl ?_; (first | refine W_load rfl (Blk.cell (by assumption) (by rfl)) ?_ | refine W_load rfl (by assumption) ?_))))
          (refine W_no rfl ?_
           <;> (first | refine W_no rfl ?_ | (refine W_yes rfl ?_; refine W_not rfl ?_))
           <;> (first | refine W_no rfl ?_ | (refine W_yes rfl ?_; ((first | refine M_pick_t rfl ?_ | refine M_pick_f rfl ?_); (first | refine M_bool rfl ?_ | refine W_move ?_))))
           <;> ((first | refine M_pick_t rfl ?_ | refine M_pick_f rfl ?_); (first | refine M_bool rfl ?_ | refine W_move ?_))
           <;> refine W_nil ?_)
          exact Q_join () ⟨rfl, rfl, rfl, rfl, rfl, rfl, rfl, rfl, rfl, trivial⟩ rfl
        · (refine C_region ?_
           <;> refine W_fieldAddr rfl ?_
           <;> (first | refine W_load rfl (Blk.cell (by assumption) (by rfl)) ?_ | refine W_load rfl (by assumption) ?_)
           <;> (refine W_eql rfl rfl (fun hc => ?_) (fun hc => ?_) <;> try (exfalso; omega))
           <;> (first | refine M_bool rfl ?_ | refine W_move ?_)
           <;> (first | refine W_no rfl ?_ | (refine W_yes rfl ?_; refine W_fieldAddr rfl ?_))
           <;> (first | refine W_no rfl ?_ | (refine W_yes rfl ?_; (first | refine W_load rfl (Blk.cell (by assumption) (by rfl)) ?_ | refine W_load rfl (by assumption) ?_)))
           <;> (first | refine W_no rfl ?_ | (refine W_yes rfl ?_; (first | refine M_int rfl ?_ | refine W_move ?_)))
           <;> (first | refine W_no rfl ?_ | (refine W_yes rfl ?_; (refine W_eql rfl rfl (fun hc => ?_) (fun hc => ?_) <;> try (exfalso; omega))))
           <;> ((first | refine M_pick_t rfl ?_ | refine M_pick_f rfl ?_); (first | refine M_bool rfl ?_ | refine W_move ?_))
           <;> (first | refine M_bool rfl ?_ | refine W_move ?_)
           <;> (first | refine W_no rfl ?_ | (refine W_yes rfl ?_; refine W_fieldAddr rfl ?_))
           <;> (first | refine W_no rfl ?_ | (refine W_yes rfl ?_; (first | refine W_load rfl (Blk.cell (by assumption) (by rfl)) ?_ | refine W_load rfl (by assumption) ?_)))
           <;> (first | refine W_no rfl ?_ | (refine W_yes rfl ?_; refine W_fieldAddr rfl ?_))
           <;> (first | refine W_no rfl ?_ | (refine W_yes rfl ?_; (first | refine W_load rfl (Blk.cell (by assumption) (by rfl)) ?_ | refine W_load rfl (by assumption) ?_)))
           <;> (first | refine W_no rfl ?_ | (refine W_yes rfl ?_; (refine W_neq rfl rfl (fun hc => ?_) (fun hc => ?_) <;> try (exfalso; omega))))
           <;> (first | refine W_no rfl ?_ | (refine W_yes rfl ?_; (first | refine M_bool rfl ?_ | refine W_move ?_)))
           <;> (first | refine W_no rfl ?_ | (refine W_yes rfl ?_; refine W_fieldAddr rfl ?_))
           <;> (first | refine W_no rfl ?_ | (refine W_yes rfl ?_; (first | refine W_load rfl (Blk.cell (by assumption) (by rfl)) ?_ | refine W_load rfl (by assumption) ?_)))
           <;> (first | refine W_no rfl ?_ | (refine W_yes rfl ?_; (first | refine M_int rfl ?_ | refine W_move ?_)))
           <;> (first | refine W_no rfl ?_ | (refine W_yes rfl ?_; (refine W_neq rfl rfl (fun hc => ?_) (fun hc => ?_) <;> try (exfalso; omega))))
           <;> (first | refine W_no rfl ?_ | (refine W_yes rfl ?_; ((first | refine M_pick_t rfl ?_ | refine M_pick_f rfl ?_); (first | refine M_bool rfl ?_ | refine W_move ?_))))
           <;> (first | refine W_no rfl ?_ | (refine W_yes rfl ?_; (first | refine M_bool rfl ?_ | refine W_move ?_)))
           <;> (first | refine W_no rfl ?_ | (refine W_yes rfl ?_; refine W_fieldAddr rfl ?_))
           <;> (first | refine W_no rfl ?_ | (refine W_yes rfl ?_; (first | refine W_load rfl (Blk.cell (by assumption) (by rfl)) ?_ | refine W_load rfl (by assumption) ?_))))
          (refine W_no rfl ?_
           <;> (first | refine W_no rfl ?_ | (refine W_yes rfl ?_; refine W_not rfl ?_))
           <;> (first | refine W_no rfl ?_ | (refine W_yes rfl ?_; ((first | refine M_pick_t rfl ?_ | refine M_pick_f rfl ?_); (first | refine M_bool rfl ?_ | refine W_move ?_))))
           <;> ((first | refine M_pick_t rfl ?_ | refine M_pick_f rfl ?_); (first | refine M_bool rfl ?_ | refine W_move ?_))
           <;> refine W_nil ?_)
          exact Q_join () ⟨rfl, rfl, rfl, rfl, rfl, rfl, rfl, rfl, rfl, trivial⟩ rfl
    rintro _ _ _ rfl
    repeat' first | refine nx ?_ | refine C_cond_t rfl ?_ | refine C_cond_f rfl ?_ | refine Q_block_on rfl ?_
    refine C_mid (α := Unit) (fun _ => [(0, strV t), (3, .bool true), (4, .slice (some ⟨b, o, none⟩) ts.length c), (7, pt w3.heap.size), (8, .int .i64 (k : Int)), (9, .int .i64 (x.loc : Int)), (10, pt v1.heap.size), (11, pt v3.heap.size), (176, .bool false)]) (fun _ W => v4 = W) ?_ ?_
    · by_cases hA : oD.errno = 50 ∧ oD.loc = x.loc
      · obtain ⟨f1, f2, f3⟩ := fD hA.1 hA.2
        (refine C_region ?_
         <;> refine W_fieldAddr rfl ?_
         <;> (first | refine W_load rfl (Blk.cell (by assumption) (by rfl)) ?_ | refine W_load rfl (by assumption) ?_)
         <;> (refine W_eql rfl rfl (fun hc => ?_) (fun hc => ?_) <;> try (exfalso; omega))
         <;> (first | refine M_bool rfl ?_ | refine W_move ?_)
         <;> (first | refine W_no rfl ?_ | (refine W_yes rfl ?_; refine W_fieldAddr rfl ?_))
         <;> (first | refine W_no rfl ?_ | (refine W_yes rfl ?_; (first | refine W_load rfl (Blk.cell (by assumption) (by rfl)) ?_ | refine W_load rfl (by assumption) ?_)))
         <;> (first | refine W_no rfl ?_ | (refine W_yes rfl ?_; (first | refine M_int rfl ?_ | refine W_move ?_)))
         <;> (first | refine W_no rfl ?_ | (refine W_yes rfl ?_; (refine W_eql rfl rfl (fun hc => ?_) (fun hc => ?_) <;> try (exfalso; omega))))
         <;> ((first | refine M_pick_t rfl ?_ | refine M_pick_f rfl ?_); (first | refine M_bool rfl ?_ | refine W_move ?_))
         <;> (first | refine M_bool rfl ?_ | refine W_move ?_)
         <;> (first | refine W_no rfl ?_ | (refine W_yes rfl ?_; refine W_fieldAddr rfl ?_))
         <;> (first | refine W_no rfl ?_ | (refine W_yes rfl ?_; (first | refine W_load rfl (Blk.cell (by assumption) (by rfl)) ?_ | refine W_load rfl (by assumption) ?_)))
         <;> (first | refine W_no rfl ?_ | (refine W_yes rfl ?_; refine W_fieldAddr rfl ?_))
         <;> (first | refine W_no rfl ?_ | (refine W_yes rfl ?_; (first | refine W_load rfl (Blk.cell (by assumption) (by rfl)) ?_ | refine W_load rfl (by assumption) ?_)))
         <;> (first | refine W_no rfl ?_ | (refine W_yes rfl ?_; (refine W_neq rfl rfl (fun hc => ?_) (fun hc => ?_) <;> try (exfalso; omega))))
         <;> (first | refine W_no rfl ?_ | (refine W_yes rfl ?_; (first | refine M_bool rfl ?_ | refine W_move ?_)))
         <;> (first | refine W_no rfl ?_ | (refine W_yes rfl ?_; refine W_fieldAddr rfl ?_))
         <;> (first | refine W_no rfl ?_ | (refine W_yes rfl ?_; (first | refine W_load rfl (Blk.cell (by assumption) (by rfl)) ?_ | refine W_load rfl (by assumption) ?_)))
         <;> (first | refine W_no rfl ?_ | (refine W_yes rfl ?_; (first | refine M_int rfl ?_ | refine W_move ?_)))
         <;> (first | refine W_no rfl ?_ | (refine W_yes rfl ?_; (refine W_neq rfl rfl (fun hc => ?_) (fun hc => ?_) <;> try (exfalso; omega))))
         <;> (first | refine W_no rfl ?_ | (refine W_yes rfl ?_; ((first | refine M_pick_t rfl ?_ | refine M_pick_f rfl ?_); (first | refine M_bool rfl ?_ | refine W_move ?_))))
         <;> (first | refine W_no rfl ?_ | (refine W_yes rfl ?_; (first | refine M_bool rfl ?_ | refine W_move ?_)))
         <;> (first | refine W_no rfl ?_ | (refine W_yes rfl ?_; refine W_fieldAddr rfl ?_))
         <;> (first | refine W_no rfl ?_ | (refine W_yes rfl ?_; (first | refine W_load rfl (Blk.cell (by assumption) (by rfl)) ?_ | refine W_load rfl (by assumption) ?_))))
        (refine W_yes rfl ?_; refine W_call (early_ok v4 oD2.errno) rfl ?_)
        rintro _ v5 ⟨rfl, rfl⟩
        rw [decide_eq_true f3]
        ((first | refine W_no rfl ?_ | (refine W_yes rfl ?_; refine W_not rfl ?_))
         <;> (first | refine W_no rfl ?_ | (refine W_yes rfl ?_; ((first | refine M_pick_t rfl ?_ | refine M_pick_f rfl ?_); (first | refine M_bool rfl ?_ | refine W_move ?_))))
         <;> ((first | refine M_pick_t rfl ?_ | refine M_pick_f rfl ?_); (first | refine M_bool rfl ?_ | refine W_move ?_))
         <;> refine W_nil ?_)
        exact Q_join () ⟨rfl, rfl, rfl, rfl, rfl, rfl, rfl, rfl, rfl, trivial⟩ rfl
      · by_cases hB : oD.errno = 50
        · have hC : oD.loc ≠ x.loc := fun h => hA ⟨hB, h⟩
          (refine C_region ?_
           <;> refine W_fieldAddr rfl ?_
           <;> (first | refine W_load rfl (Blk.cell (by assumption) (by rfl)) ?_ | refine W_load rfl (by assumption) ?_)
           <;> (refine W_eql rfl rfl (fun hc => ?_) (fun hc => ?_) <;> try (exfalso; omega))
           <;> (first | refine M_bool rfl ?_ | refine W_move ?_)
           <;> (first | refine W_no rfl ?_ | (refine W_yes rfl ?_; refine W_fieldAddr rfl ?_))
           <;> (first | refine W_no rfl ?_ | (refine W_yes rfl ?_; (first | refine W_load rfl (Blk.cell (by assumption) (by rfl)) ?_ | refine W_load rfl (by assumption) ?_)))
           <;> (first | refine W_no rfl ?_ | (refine W_yes rfl ?_; (first | refine M_int rfl ?_ | refine W_move ?_)))
           <;> (first | refine W_no rfl ?_ | (refine W_yes rfl ?_; (refine W_eql rfl rfl (fun hc => ?_) (fun hc => ?_) <;> try (exfalso; omega))))
           <;> ((first | refine M_pick_t rfl ?_ | refine M_pick_f rfl ?_); (first | refine M_bool rfl ?_ | refine W_move ?_))
           <;> (first | refine M_bool rfl ?_ | refine W_move ?_)
           <;> (first | refine W_no rfl ?_ | (refine W_yes rfl ?_; refine W_fieldAddr rfl ?_))
           <;> (first | refine W_no rfl ?_ | (refine W_yes rfl ?_; (first | refine W_load rfl (Blk.cell (by assumption) (by rfl)) ?_ | refine W_load rfl (by assumption) ?_)))
           <;> (first | refine W_no rfl ?_ | (refine W_yes rfl ?_; refine W_fieldAddr rfl ?_))
           <;> (first | refine W_no rfl ?_ | (refine W_yes rfl ?_; (first | refine W_load rfl (Blk.cell (by assumption) (by rfl)) ?_ | refine W_load rfl (by assumption) ?_)))
           <;> (first | refine W_no rfl ?_ | (refine W_yes rfl ?_; (refine W_neq rfl rfl (fun hc => ?_) (fun hc => ?_) <;> try (exfalso; omega))))
           <;> (first | refine W_no rfl ?_ | (refine W_yes rfl ?_; (first | refine M_bool rfl ?_ | refine W_move ?_)))
           <;> (first | refine W_no rfl ?_ | (refine W_yes rfl ?_; refine W_fieldAddr rfl ?_))
           <;> (first | refine W_no rfl ?_ | (refine W_yes rfl ?_; (first | refine W_load rfl (Blk.cell (by assumption) (by rfl)) ?_ | refine W_load rfl (by assumption) ?_)))
           <;> (first | refine W_no rfl ?_ | (refine W_yes rfl ?_; (first | refine M_int rfl ?_ | refine W_move ?_)))
           <;> (first | refine W_no rfl ?_ | (refine W_yes rfl ?_; (refine W_neq rfl rfl (fun hc => ?_) (fun hc => ?_) <;> try (exfalso; omega))))
           <;> (first | refine W_no rfl ?_ | (refine W_yes rfl ?_; ((first | refine M_pick_t rfl ?_ | refine M_pick_f rfl ?_); (first | refine M_bool rfl ?_ | refine W_move ?_))))
           <;> (first | refine W_no rfl ?_ | (refine W_yes rfl ?_; (first | refine M_bool rfl ?_ | refine W_move ?_)))
           <;> (first | refine W_no rfl ?_ | (refine W_yes rfl ?_; refine W_fieldAddr rfl ?_))
           <;> (first | refine W_no rfl ?_ | (refine W_yes rfl ?_; (first | refine W_load rfl (Blk.cell (by assumption) (by rfl)) ?_ | refine W_load rfl (by assumption) ?_))))
          (refine W_no rfl ?_
           <;> (first | refine W_no rfl ?_ | (refine W_yes rfl ?_; refine W_not rfl ?_))
           <;> (first | refine W_no rfl ?_ | (refine W_yes rfl ?_; ((first | refine M_pick_t rfl ?_ | refine M_pick_f rfl ?_); (first | refine M_bool rfl ?_ | refine W_move ?_))))
           <;> ((first | refine M_pick_t rfl ?_ | refine M_pick_f rfl ?_); (first | refine M_bool rfl ?_ | refine W_move ?_))
           <;> refine W_nil ?_)
          exact Q_join () ⟨rfl, rfl, rfl, rfl, rfl, rfl, rfl, rfl, rfl, trivial⟩ rfl
        · (refine C_region ?_
           <;> refine W_fieldAddr rfl ?_
           <;> (first | refine W_load rfl (Blk.cell (by assumption) (by rfl)) ?_ | refine W_load rfl (by assumption) ?_)
           <;> (refine W_eql rfl rfl (fun hc => ?_) (fun hc => ?_) <;> try (exfalso; omega))
           <;> (first | refine M_bool rfl ?_ | refine W_move ?_)
           <;> (first | refine W_no rfl ?_ | (refine W_yes rfl ?_; refine W_fieldAddr rfl ?_))
           <;> (first | refine W_no rfl ?_ | (refine W_yes rfl ?_; (first | refine W_load rfl (Blk.cell (by assumption) (by rfl)) ?_ | refine W_load rfl (by assumption) ?_)))
           <;> (first | refine W_no rfl ?_ | (refine W_yes rfl ?_; (first | refine M_int rfl ?_ | refine W_move ?_)))
           <;> (first | refine W_no rfl ?_ | (refine W_yes rfl ?_; (refine W_eql rfl rfl (fun hc => ?_) (fun hc => ?_) <;> try (exfalso; omega))))
           <;> ((first | refine M_pick_t rfl ?_ | refine M_pick_f rfl ?_); (first | refine M_bool rfl ?_ | refine W_move ?_))
           <;> (first | refine M_bool rfl ?_ | refine W_move ?_)
           <;> (first | refine W_no rfl ?_ | (refine W_yes rfl ?_; refine W_fieldAddr rfl ?_))
           <;> (first | refine W_no rfl ?_ | (refine W_yes rfl ?_; (first | refine W_load rfl (Blk.cell (by assumption) (by rfl)) ?_ | refine W_load rfl (by assumption) ?_)))
           <;> (first | refine W_no rfl ?_ | (refine W_yes rfl ?_; refine W_fieldAddr rfl ?_))
           <;> (first | refine W_no rfl ?_ | (refine W_yes rfl ?_; (first | refine W_load rfl (Blk.cell (by assumption) (by rfl)) ?_ | refine W_load rfl (by assumption) ?_)))
           <;> (first | refine W_no rfl ?_ | (refine W_yes rfl ?_; (refine W_neq rfl rfl (fun hc => ?_) (fun hc => ?_) <;> try (exfalso; omega))))
           <;> (first | refine W_no rfl ?_ | (refine W_yes rfl ?_; (first | refine M_bool rfl ?_ | refine W_move ?_)))
           <;> (first | refine W_no rfl ?_ | (refine W_yes rfl ?_; refine W_fieldAddr rfl ?_))
           <;> (first | refine W_no rfl ?_ | (refine W_yes rfl ?_; (first | refine W_load rfl (Blk.cell (by assumption) (by rfl)) ?_ | refine W_load rfl (by assumption) ?_)))
           <;> (first | refine W_no rfl ?_ | (refine W_yes rfl ?_; (first | refine M_int rfl ?_ | refine W_move ?_)))
           <;> (first | refine W_no rfl ?_ | (refine W_yes rfl ?_; (refine W_neq rfl rfl (fun hc => ?_) (fun hc => ?_) <;> try (exfalso; omega))))
           <;> (first | refine W_no rfl ?_ | (refine W_yes rfl ?_; ((first | refine M_pick_t rfl ?_ | refine M_pick_f rfl ?_); (first | refine M_bool rfl ?_ | refine W_move ?_))))
           <;> (first | refine W_no rfl ?_ | (refine W_yes rfl ?_; (first | refine M_bool rfl ?_ | refine W_move ?_)))
           <;> (first | refine W_no rfl ?_ | (refine W_yes rfl ?_; refine W_fieldAddr rfl ?_))
           <;> (first | refine W_no rfl ?_ | (refine W_yes rfl ?_; (first | refine W_load rfl (Blk.cell (by assumption) (by rfl)) ?_ | refine W_load rfl (by assumption) ?_))))
          (refine W_no rfl ?_
           <;> (first | refine W_no rfl ?_ | (refine W_yes rfl ?_; refine W_not rfl ?_))
           <;> (first | refine W_no rfl ?_ | (refine W_yes rfl ?_; ((first | refine M_pick_t rfl ?_ | refine M_pick_f rfl ?_); (first | refine M_bool rfl ?_ | refine W_move ?_))))
           <;> ((first | refine M_pick_t rfl ?_ | refine M_pick_f rfl ?_); (first | refine M_bool rfl ?_ | refine W_move ?_))
           <;> refine W_nil ?_)
          exact Q_join () ⟨rfl, rfl, rfl, rfl, rfl, rfl, rfl, rfl, rfl, trivial⟩ rfl
    rintro _ _ _ rfl
    repeat' first | refine nx ?_ | refine C_cond_t rfl ?_ | refine C_cond_f rfl ?_ | refine Q_block_on rfl ?_
    (refine C_region ?_
     <;> (first | refine M_int rfl ?_ | refine W_move ?_)
     <;> refine W_add rfl rfl (by first | exact inR_i64 (by omega) (by omega) | exact inR_u8 (by omega) (by omega) | exact inR_u16 (by omega) (by omega)) ?_
     <;> (refine M_assign ?_; (first | refine M_int rfl ?_ | refine W_move ?_))
     <;> refine W_nil ?_)
    repeat' first | refine nx ?_ | refine C_cond_t rfl ?_ | refine C_cond_f rfl ?_ | refine Q_block_on rfl ?_
    refine ⟨k + 1, ⟨rfl, ⟨rfl, rfl, rfl, rfl, ?_, trivial⟩, ⟨by omega, k5.trans l4⟩⟩, by omega⟩
    show Value.int .i64 ((k : Int) + 1) = _
    rw [Int.natCast_add]; rfl
  · (refine C_region ?_
     <;> (first | refine M_int rfl ?_ | refine W_move ?_)
     <;> (first | refine M_slice rfl ?_ | refine W_move ?_)
     <;> refine W_len rfl ?_
     <;> (refine W_lss rfl rfl (fun hc => ?_) (fun hc => ?_) <;> try (exfalso; omega))
     <;> refine W_nil ?_)
    repeat' first | refine nx ?_ | refine C_cond_t rfl ?_ | refine C_cond_f rfl ?_ | refine Q_block_on rfl ?_
    (refine C_region ?_
     <;> (first | refine M_bool rfl ?_ | refine W_move ?_)
     <;> (refine M_assign ?_; (first | refine M_bool rfl ?_ | refine W_move ?_))
     <;> refine W_nil ?_)
    repeat' first | refine nx ?_ | refine C_cond_t rfl ?_ | refine C_cond_f rfl ?_ | refine Q_block_on rfl ?_
    exact fin_ret1 rfl ⟨rfl, k24.trans k5⟩
end Go.Proofs.YtmnhnbpnjepkbaaGreatDoor
