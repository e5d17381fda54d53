/- The parser's plain law: where formulas stop, formulas in parentheses, operators between and ahead. The parser's plain law: texts in parentheses, operators between and ahead. The parser's laws: operators between and ahead of texts in parentheses; operators, before. Conditions: none. -/
import Derived.Test.YtmnhnbpnjepkbaaGreatDoorK1A15

namespace Go.Proofs.YtmnhnbpnjepkbaaGreatDoor
set_option linter.unusedVariables false

/-! ### Stoppers -/
theorem G.bind_assoc {α β γ : Type} (p : G α) (u : α → G β) (q : β → G γ) : (p.bind u).bind q = p.bind fun a => (u a).bind q := by
  induction p with
  | ret a => rfl
  | fail => rfl
  | look k ih => simp only [G.bind]; congr 1; funext o; exact ih o
  | next g ih => simp only [G.bind]; rw [ih]
  | call nt k ih => simp only [G.bind]; congr 1; funext v; exact ih v
theorem good_accepts {S : NT → Prop} {x : BT} {α : Type} {s : List UInt8} {q : Bool → G α} (hx : seesB s (some x) = false) (ht : Good S x false (q true)) (hf : ∀ b, Good S x b (q false)) (b : Bool) : Good S x b ((accepts s).bind q) := by
  refine ⟨fun y => ?_, .inr (.inr ⟨?_, ?_⟩)⟩
  · show Good S x true (G.bind (if seesB s (some y) = true then .next (.ret true) else .ret false) q)
    split
    · exact ⟨rfl, ht⟩
    · exact hf true
  · show G.bind (if seesB s none = true then .next (.ret true) else .ret false) q = G.bind (if seesB s (some x) = true then .next (.ret true) else .ret false) q
    rw [hx]; rfl
  · exact hf false
theorem good_expect {S : NT → Prop} {x : BT} {α : Type} {s : List UInt8} {q : Unit → G α} (h : Good S x false (q ())) (b : Bool) : Good S x b ((expect s).bind q) := by
  refine ⟨fun y => ?_, .inr (.inl rfl)⟩
  show Good S x true (G.bind (if seesB s (some y) = true then .next (.ret ()) else .fail) q)
  split
  · exact ⟨rfl, h⟩
  · trivial
theorem good_name {S : NT → Prop} {x : BT} {α : Type} {q : List UInt8 → G α} (h : ∀ s, Good S x false (q s)) (b : Bool) : Good S x b (nameG.bind q) := by
  refine ⟨fun y => ?_, .inr (.inl rfl)⟩
  show Good S x true (G.bind (if decide (y.1 = 1) && nameB y.2 then .next (.ret y.2) else .fail) q)
  split
  · exact ⟨rfl, h _⟩
  · trivial
theorem good_number {S : NT → Prop} {x : BT} {α : Type} {q : Int → G α} (h : ∀ n, Good S x false (q n)) (b : Bool) : Good S x b (numberG.bind q) := by
  refine ⟨fun y => ?_, .inr (.inl rfl)⟩
  show Good S x true (G.bind (if decide (y.1 = 2) then .next (.ret (numOf y.2)) else .fail) q)
  split
  · exact ⟨rfl, h _⟩
  · trivial
theorem good_take {S : NT → Prop} {x : BT} {α : Type} {tab : List (List UInt8 × Opr)} {q : Option Opr → G α} (hx : tab.lookup x.2 = none) (h : ∀ p, Good S x false (q (some p))) (hn : ∀ b, Good S x b (q none)) (b : Bool) : Good S x b ((takeG tab).bind q) := by
  refine ⟨fun y => ?_, .inr (.inr ⟨?_, hn false⟩)⟩
  · show Good S x true (G.bind (match tab.lookup y.2 with | some p => .next (.ret (some p)) | none => .ret none) q)
    cases tab.lookup y.2 with
    | none => exact hn true
    | some p => exact ⟨rfl, h p⟩
  · show q none = G.bind (match tab.lookup x.2 with | some p => .next (.ret (some p)) | none => .ret none) q
    rw [hx]; rfl
theorem good_index {S : NT → Prop} {x : BT} {α : Type} {o : Opr} {q : Option Int → G α} (hx : seesB [91] (some x) = false) (h : ∀ n b, Good S x b (q n)) (b : Bool) : Good S x b ((indexG o).bind q) := by
  unfold indexG
  split
  · exact h none b
  · rw [G.bind_assoc]
    refine good_accepts hx ?_ (fun b => h none b) b
    show Good S x false ((numberG.bind fun n => (expect [93]).bind fun _ => .ret (some n)).bind q)
    rw [G.bind_assoc]
    refine good_number (fun n => ?_) false
    rw [G.bind_assoc]
    exact good_expect (h _ _) false
theorem good_call {S : NT → Prop} {x : BT} {α : Type} {b : Bool} {nt : NT} {k : nt.T → G α} (hs : S nt) (h : ∀ v, Good S x false (k v)) : Good S x b (.call nt k) := And.intro hs h
theorem good_ret {S : NT → Prop} {x : BT} {α : Type} {b : Bool} {a : α} : Good S x b (.ret a) := trivial
def fmlS : NT → Prop
  | .formula => True
  | .orN => True
  | .orL => True
  | .andN => True
  | .andL => True
  | .untilN => True
  | .unary => True
  | .primary => True
  | _ => False
/-- a token behind which no formula goes on -/
structure StopF (x : BT) : Prop where
  imp : seesB [45, 62] (some x) = false
  or : seesB [124] (some x) = false
  and : seesB [38] (some x) = false
  tru : seesB [116, 114, 117, 101] (some x) = false
  fls : seesB [102, 97, 108, 115, 101] (some x) = false
  opn : seesB [40] (some x) = false
  eq : seesB [61] (some x) = false
  ne : seesB [33, 61] (some x) = false
  br : seesB [91] (some x) = false
  pre : prefixT.lookup x.2 = none
  inf : infixT.lookup x.2 = none
theorem good_formula {S : NT → Prop} {x : BT} (hS : ∀ nt, fmlS nt → S nt) (h : StopF x) : ∀ nt, fmlS nt → Good S x false (body nt)
  | .formula, _ => good_call (hS .orN trivial) fun a => by
    refine good_accepts h.imp ?_ (fun _ => ?_) false
    · exact good_call (hS .formula trivial) fun _ => good_ret
    · exact good_ret
  | .orN, _ => good_call (hS .andN trivial) fun a => good_call (hS .orL trivial) fun _ => good_ret
  | .orL, _ => by
    refine good_accepts h.or ?_ (fun _ => ?_) false
    · exact good_call (hS .andN trivial) fun a => good_call (hS .orL trivial) fun _ => good_ret
    · exact good_ret
  | .andN, _ => good_call (hS .untilN trivial) fun a => good_call (hS .andL trivial) fun _ => good_ret
  | .andL, _ => by
    refine good_accepts h.and ?_ (fun _ => ?_) false
    · exact good_call (hS .untilN trivial) fun a => good_call (hS .andL trivial) fun _ => good_ret
    · exact good_ret
  | .untilN, _ => good_call (hS .unary trivial) fun a => by
    refine good_take h.inf (fun o => ?_) (fun _ => ?_) false
    · refine good_index h.br (fun n b => ?_) false
      exact good_call (hS .untilN trivial) fun _ => good_ret
    · exact good_ret
  | .unary, _ => by
    refine good_take h.pre (fun o => ?_) (fun _ => ?_) false
    · refine good_index h.br (fun n b => ?_) false
      exact good_call (hS .unary trivial) fun _ => good_ret
    · exact good_call (hS .primary trivial) fun _ => good_ret
  | .primary, _ => by
    refine good_accepts h.tru ?_ (fun b => ?_) false
    · exact good_ret
    refine good_accepts h.fls ?_ (fun b => ?_) b
    · exact good_ret
    refine good_accepts h.opn ?_ (fun b => ?_) b
    · refine good_call (hS .formula trivial) fun f => ?_
      refine good_expect ?_ false
      exact good_ret
    refine good_name (fun s => ?_) b
    refine good_accepts h.eq ?_ (fun b => ?_) false
    · refine good_number (fun n => ?_) false
      exact good_ret
    refine good_accepts h.ne ?_ (fun _ => ?_) b
    · refine good_number (fun n => ?_) false
      exact good_ret
    · exact good_ret
theorem stop_close : StopF (3, [41]) := ⟨by decide, by decide, by decide, by decide, by decide, by decide, by decide, by decide, by decide, by decide, by decide⟩

/-! ### Steps of a run -/
theorem run_yes {β : Type} {s : List UInt8} {q : Bool → G β} {x : Tok} {l : List Tok} {r : Ans β} (h : seesB s (some (bare x)) = true) (h' : Run (q true) l r) : Run ((accepts s).bind q) (x :: l) r := by
  have : Run (accepts s) (x :: l) (.ok (true, l)) := Run.look (by
    show Run (if seesB s (some (bare x)) = true then .next (.ret true) else .ret false) _ _
    rw [if_pos h]; exact Run.next (Run.ret _ _))
  exact this.bind h'
theorem run_no {β : Type} {s : List UInt8} {q : Bool → G β} {l : List Tok} {r : Ans β} (h : seesB s (l.head?.map bare) = false) (h' : Run (q false) l r) : Run ((accepts s).bind q) l r := by
  have : Run (accepts s) l (.ok (false, l)) := Run.look (by
    show Run (if seesB s (l.head?.map bare) = true then .next (.ret true) else .ret false) _ _
    rw [h]; exact Run.ret _ _)
  exact this.bind h'
theorem run_expect {β : Type} {s : List UInt8} {q : Unit → G β} {x : Tok} {l : List Tok} {r : Ans β} (h : seesB s (some (bare x)) = true) (h' : Run (q ()) l r) : Run ((expect s).bind q) (x :: l) r := by
  have : Run (expect s) (x :: l) (.ok ((), l)) := Run.look (by
    show Run (if seesB s (some (bare x)) = true then .next (.ret ()) else .fail) _ _
    rw [if_pos h]; exact Run.next (Run.ret _ _))
  exact this.bind h'
theorem run_name {β : Type} {q : List UInt8 → G β} {x : Tok} {l : List Tok} {r : Ans β} (hk : x.kind = 1) (hn : nameB x.text = true) (h' : Run (q x.text) l r) : Run (nameG.bind q) (x :: l) r := by
  have : Run nameG (x :: l) (.ok (x.text, l)) := Run.look (by
    show Run (if decide (x.kind = 1) && nameB x.text then .next (.ret x.text) else .fail) _ _
    rw [if_pos (by simp [hk, hn])]; exact Run.next (Run.ret _ _))
  exact this.bind h'
theorem run_number {β : Type} {q : Int → G β} {x : Tok} {l : List Tok} {r : Ans β} (hk : x.kind = 2) (h' : Run (q (numOf x.text)) l r) : Run (numberG.bind q) (x :: l) r := by
  have : Run numberG (x :: l) (.ok (numOf x.text, l)) := Run.look (by
    show Run (if decide (x.kind = 2) then .next (.ret (numOf x.text)) else .fail) _ _
    rw [if_pos (by simp [hk])]; exact Run.next (Run.ret _ _))
  exact this.bind h'
theorem run_take {β : Type} {tab : List (List UInt8 × Opr)} {q : Option Opr → G β} {x : Tok} {l : List Tok} {o : Opr} {r : Ans β} (h : tab.lookup x.text = some o) (h' : Run (q (some o)) l r) : Run ((takeG tab).bind q) (x :: l) r := by
  have : Run (takeG tab) (x :: l) (.ok (some o, l)) := Run.look (by
    show Run (match tab.lookup x.text with | some p => .next (.ret (some p)) | none => .ret none) _ _
    rw [h]; exact Run.next (Run.ret _ _))
  exact this.bind h'
theorem run_take_no {β : Type} {tab : List (List UInt8 × Opr)} {q : Option Opr → G β} {l : List Tok} {r : Ans β} (h : ∀ x, l.head? = some x → tab.lookup x.text = none) (h' : Run (q none) l r) : Run ((takeG tab).bind q) l r := by
  have : Run (takeG tab) l (.ok (none, l)) := Run.look (by
    cases l with
    | nil => exact Run.ret _ _
    | cons x l =>
      show Run (match tab.lookup x.text with | some p => .next (.ret (some p)) | none => .ret none) _ _
      rw [h x rfl]; exact Run.ret _ _)
  exact this.bind h'

/-! ### Parentheses -/
/-- what stands behind a formula of the inmost level does not go on with it, up to a level -/
structure Beyond (r : List Tok) : Prop where
  inf : ∀ x, r.head? = some x → infixT.lookup x.text = none
theorem paren {x y : Tok} {A : List Tok} {f : Fml} (r : List Tok) (hx : bare x = (3, [40])) (hy : bare y = (3, [41])) (h : RunN .formula A (.ok (f, []))) : RunN .unary (x :: (A ++ y :: r)) (.ok (f, r)) := by
  have h1 : RunN .formula (A ++ y :: r) (.ok (f, y :: r)) := RunN.stop (S := fmlS) (nt := .formula) (fun nt => good_formula (fun _ h => h) (by rw [hy]; exact stop_close) nt) trivial r h
  have hxt : x.text = [40] := congrArg Prod.snd hx
  have hp : RunN .primary (x :: (A ++ y :: r)) (.ok (f, r)) := by
    refine run_no (by show seesB _ (some (bare x)) = false; rw [hx]; decide) (run_no (by show seesB _ (some (bare x)) = false; rw [hx]; decide) (run_yes (by rw [hx]; decide) ?_))
    exact Run.call h1 (run_expect (by rw [hy]; decide) (Run.ret _ _))
  refine run_take_no (fun z hz => ?_) (Run.call hp (Run.ret _ _))
  cases hz
  rw [hxt]; decide
theorem up_until {l r : List Tok} {f : Fml} (h : RunN .unary l (.ok (f, r))) (hr : ∀ x, r.head? = some x → infixT.lookup x.text = none) : RunN .untilN l (.ok (f, r)) :=
  Run.call h (run_take_no hr (Run.ret _ _))
theorem up_and {l r : List Tok} {f : Fml} (h : RunN .untilN l (.ok (f, r))) (hr : seesB [38] (r.head?.map bare) = false) : RunN .andN l (.ok (f, r)) :=
  Run.call h (Run.call (show RunN .andL r (.ok ([], r)) from run_no hr (Run.ret _ _)) (Run.ret _ _))
theorem up_or {l r : List Tok} {f : Fml} (h : RunN .andN l (.ok (f, r))) (hr : seesB [124] (r.head?.map bare) = false) : RunN .orN l (.ok (f, r)) :=
  Run.call h (Run.call (show RunN .orL r (.ok ([], r)) from run_no hr (Run.ret _ _)) (Run.ret _ _))
theorem up_imp {l r : List Tok} {f : Fml} (h : RunN .orN l (.ok (f, r))) (hr : seesB [45, 62] (r.head?.map bare) = false) : RunN .formula l (.ok (f, r)) :=
  Run.call h (run_no hr (Run.ret _ _))
theorem up_all {l : List Tok} {f : Fml} (h : RunN .unary l (.ok (f, []))) : RunN .formula l (.ok (f, [])) :=
  up_imp (up_or (up_and (up_until h (fun x hx => by cases hx)) rfl) rfl) rfl
theorem wholeF {l : List Tok} {f : Fml} (h : RunN .formula l (.ok (f, []))) : Run (whole .formula) l (.ok (f, [])) := Run.call h (Run.look (Run.ret _ _))
theorem wholeF_inv {l r : List Tok} {f : Fml} (h : Run (whole .formula) l (.ok (f, r))) : RunN .formula l (.ok (f, [])) := by
  rcases Run.call_inv h with ⟨u, m, h1, h2⟩ | ⟨e, _, h2⟩
  · cases m with
    | nil => cases h2.det (show Run (.look _) [] (.ok (u, [])) from Run.look (Run.ret _ _)); exact h1
    | cons x m => cases h2.det (show Run (.look _) (x :: m) (.error (x :: m)) from Run.look (Run.fail _))
  · cases h2
end Go.Proofs.YtmnhnbpnjepkbaaGreatDoor

namespace Go.Proofs.YtmnhnbpnjepkbaaGreatDoor
set_option linter.unusedVariables false

/-! ### What is read, one behind the other -/
theorem Reads.cat {s s' : List UInt8} {us us' : List Tok} (h : Reads s us) (h' : Reads s' us') (hc : us.length + us'.length ≤ 2000) : Reads (s ++ s') (us ++ us'.map (shT s.length)) := by
  intro u
  have h1 := h (s' ++ u)
  have h2 := (h' u).shift s us hc
  simp only [Nat.add_zero, List.map_nil, List.append_nil] at h2
  rw [List.append_assoc, List.length_append]
  exact h1.trans h2
theorem Reads.lex {s : List UInt8} {us : List Tok} (h : Reads s us) (hl : s.length ≤ 6000) : lexM s = .ok us := by
  have := h []
  rw [List.append_nil] at this
  exact lexM_reach hl this
/-- a text, a line feed, a token that stands alone whatever follows -/
theorem reads_line {a : List UInt8} {A : List Tok} (h : lexM a = .ok A) (hc : A.length ≤ 2000) : Reads (a ++ [10]) A := by
  intro u
  have h1 := (lexM_ok h).2.app u
  have h2 : Reach1 (([10] : List UInt8) ++ u) 0 [] 1 [] := .step (a1 := 1) (by simp) rfl (.refl _ _)
  have h2 := h2.shift a A (by simpa using hc)
  simp only [List.map_nil, List.append_nil, Nat.add_zero] at h2
  rw [List.append_assoc, List.length_append]
  exact h1.trans h2
/-- a symbol of one byte, whatever follows -/
theorem sym_at {t u : List UInt8} {a : Nat} {c : UInt8} {ts : List Tok} (hd : t.drop a = c :: u) (hc : c = 40 ∨ c = 41 ∨ c = 91 ∨ c = 93 ∨ c = 59 ∨ c = 58 ∨ c = 123 ∨ c = 125 ∨ c = 124 ∨ c = 38) (hts : ts.length < 2000) : stepM t a ts = .ok (a + 1, ts ++ [⟨3, [c], a⟩]) := by
  have hg : t.getD a 0 = c := by
    have h1 : (t.drop a).head? = some c := by rw [hd]; rfl
    rw [List.head?_drop] at h1
    rw [List.getD_eq_getElem?_getD, h1]; rfl
  have hk : kindB c = some 4 := by rcases hc with rfl | rfl | rfl | rfl | rfl | rfl | rfl | rfl | rfl | rfl <;> rfl
  have hf : symsL.find? (hasPre (t.drop a)) = some [c] := by
    rw [hd]
    rcases hc with rfl | rfl | rfl | rfl | rfl | rfl | rfl | rfl | rfl | rfl <;> simp [symsL, hasPre]
  have hx : (t.take (a + 1)).drop a = [c] := by
    rw [List.drop_take, hd, show a + 1 - a = 1 by omega]; rfl
  unfold stepM
  rw [hg, hk]
  show symM t a ts = _
  unfold symM
  rw [hf]
  show addM t a ts 3 (a + 1) = _
  unfold addM
  rw [if_neg (by omega), hx]
theorem imp_step (u : List UInt8) : stepM (45 :: 62 :: u) 0 [] = .ok (2, [⟨3, [45, 62], 0⟩]) := by
  have hf : symsL.find? (hasPre ((45 :: 62 :: u).drop 0)) = some [45, 62] := by simp [symsL, hasPre]
  have h : stepM (45 :: 62 :: u) 0 [] = symM (45 :: 62 :: u) 0 [] := rfl
  rw [h]
  unfold symM
  rw [hf]; rfl
theorem not_step (u : List UInt8) : stepM (33 :: 40 :: u) 0 [] = .ok (1, [⟨3, [33], 0⟩]) := by
  have hf : symsL.find? (hasPre ((33 :: 40 :: u).drop 0)) = some [33] := by simp [symsL, hasPre]
  have h : stepM (33 :: 40 :: u) 0 [] = symM (33 :: 40 :: u) 0 [] := rfl
  rw [h]
  unfold symM
  rw [hf]; rfl
theorem reads_open : Reads [40] [⟨3, [40], 0⟩] := fun u => .step (a1 := 1) (by simp) (sym_at rfl (by simp) (by simp)) (.refl _ _)
theorem reads_close : Reads [41] [⟨3, [41], 0⟩] := fun u => .step (a1 := 1) (by simp) (sym_at rfl (by simp) (by simp)) (.refl _ _)
/-- what stands behind the opening bracket -/
def tailT (a : List UInt8) : List UInt8 := (a ++ [10]) ++ [41]
def closedT (a : List UInt8) : List UInt8 := [40] ++ tailT a
theorem tailT_len (a : List UInt8) : (tailT a).length = a.length + 2 := by simp [tailT]
theorem closedT_len (a : List UInt8) : (closedT a).length = a.length + 3 := by simp [closedT, tailT_len]
theorem reads_tail {a : List UInt8} {A : List Tok} (h : lexM a = .ok A) (hc : A.length + 1 ≤ 2000) : ∃ y, bare y = (3, [41]) ∧ Reads (tailT a) (A ++ [y]) :=
  ⟨_, rfl, (reads_line h (by omega)).cat reads_close hc⟩
/-- a prefix that ends in an opening bracket, a text, a closing bracket -/
theorem reads_closed {p a : List UInt8} {us A : List Tok} {x : Tok} (hp : Reads p (us ++ [x])) (hx : bare x = (3, [40])) (h : lexM a = .ok A) (hc : us.length + A.length + 2 ≤ 2000) :
    ∃ (x y : Tok) (B : List Tok), bare x = (3, [40]) ∧ bare y = (3, [41]) ∧ B.map bare = A.map bare ∧ B.length = A.length ∧ Reads (p ++ tailT a) (us ++ (x :: (B ++ [y]))) := by
  obtain ⟨y, hy, h1⟩ := reads_tail h (by omega)
  refine ⟨x, shT p.length y, A.map (shT p.length), hx, by rw [← hy]; rfl, ?_, by simp, ?_⟩
  · rw [List.map_map]; rfl
  · have := hp.cat h1 (by simp; omega)
    simpa using this
theorem formula_bare {A B : List Tok} {f : Fml} (h : RunN .formula A (.ok (f, []))) (hb : B.map bare = A.map bare) : RunN .formula B (.ok (f, [])) := by
  obtain ⟨r, h1, h2⟩ := Run.bare hb.symm h
  cases r with
  | error e => exact h2.elim
  | ok z =>
    obtain ⟨v, l⟩ := z
    obtain ⟨e1, e2⟩ := h2
    have hl : l = [] := List.map_eq_nil_iff.1 e2.symm
    have hv : f = v := e1
    subst hl; subst hv
    exact h1
theorem PRes.tokens {a : List UInt8} {f : Fml} (h : PRes .formula a (.ok f)) : ∃ A, lexM a = .ok A ∧ RunN .formula A (.ok (f, [])) := by
  obtain ⟨ts, l, h1, h2⟩ := h.run
  exact ⟨ts, h1, wholeF_inv h2⟩
theorem PRes.ofRun {a : List UInt8} {A : List Tok} {f : Fml} (h : lexM a = .ok A) (h' : RunN .formula A (.ok (f, []))) : PRes .formula a (.ok f) := by
  unfold PRes
  rw [h]
  exact ⟨.ok (f, []), wholeF h', rfl⟩

/-! ### Operators between -/
structure Bin where
  text : List UInt8
  op : Int
  val : Int
  toks : List Tok
def binL : List Bin := [⟨[45, 62], 7, 0, [⟨3, [45, 62], 0⟩]⟩, ⟨[124], 6, 0, [⟨3, [124], 0⟩]⟩, ⟨[38], 5, 0, [⟨3, [38], 0⟩]⟩, ⟨[85], 9, 0, [⟨1, [85], 0⟩]⟩, ⟨[82], 10, 0, [⟨1, [82], 0⟩]⟩, ⟨[83], 16, 0, [⟨1, [83], 0⟩]⟩, ⟨[84], 17, 1, [⟨1, [84], 0⟩]⟩,
  ⟨[83, 91, 49, 93], 16, 1, [⟨1, [83], 0⟩, ⟨3, [91], 1⟩, ⟨2, [49], 2⟩, ⟨3, [93], 3⟩]⟩, ⟨[84, 91, 48, 93], 17, 0, [⟨1, [84], 0⟩, ⟨3, [91], 1⟩, ⟨2, [48], 2⟩, ⟨3, [93], 3⟩]⟩]
theorem bin_reads : ∀ o ∈ binL, Reads (o.text ++ [40]) (o.toks ++ [⟨3, [40], o.text.length⟩]) ∧ o.text.length ≤ 4 ∧ o.toks.length ≤ 4 := by
  intro o ho
  simp only [binL, List.mem_cons, List.not_mem_nil, or_false] at ho
  rcases ho with rfl | rfl | rfl | rfl | rfl | rfl | rfl | rfl | rfl
  · exact ⟨fun u => .step (a1 := 2) (by simp) (imp_step _) (.step (a1 := 3) (by simp) (sym_at rfl (by simp) (by simp)) (.refl _ _)), by simp, by simp⟩
  · exact ⟨fun u => .step (a1 := 1) (by simp) (sym_at rfl (by simp) (by simp)) (.step (a1 := 2) (by simp) (sym_at rfl (by simp) (by simp)) (.refl _ _)), by simp, by simp⟩
  · exact ⟨fun u => .step (a1 := 1) (by simp) (sym_at rfl (by simp) (by simp)) (.step (a1 := 2) (by simp) (sym_at rfl (by simp) (by simp)) (.refl _ _)), by simp, by simp⟩
  · exact ⟨fun u => .step (a1 := 1) (by simp) rfl (.step (a1 := 2) (by simp) (sym_at rfl (by simp) (by simp)) (.refl _ _)), by simp, by simp⟩
  · exact ⟨fun u => .step (a1 := 1) (by simp) rfl (.step (a1 := 2) (by simp) (sym_at rfl (by simp) (by simp)) (.refl _ _)), by simp, by simp⟩
  · exact ⟨fun u => .step (a1 := 1) (by simp) rfl (.step (a1 := 2) (by simp) (sym_at rfl (by simp) (by simp)) (.refl _ _)), by simp, by simp⟩
  · exact ⟨fun u => .step (a1 := 1) (by simp) rfl (.step (a1 := 2) (by simp) (sym_at rfl (by simp) (by simp)) (.refl _ _)), by simp, by simp⟩
  · exact ⟨fun u => .step (a1 := 1) (by simp) rfl (.step (a1 := 2) (by simp) (sym_at rfl (by simp) (by simp)) (.step (a1 := 3) (by simp) rfl (.step (a1 := 4) (by simp) (sym_at rfl (by simp) (by simp)) (.step (a1 := 5) (by simp) (sym_at rfl (by simp) (by simp)) (.refl _ _))))), by simp, by simp⟩
  · exact ⟨fun u => .step (a1 := 1) (by simp) rfl (.step (a1 := 2) (by simp) (sym_at rfl (by simp) (by simp)) (.step (a1 := 3) (by simp) rfl (.step (a1 := 4) (by simp) (sym_at rfl (by simp) (by simp)) (.step (a1 := 5) (by simp) (sym_at rfl (by simp) (by simp)) (.refl _ _))))), by simp, by simp⟩

/-! ### Operators ahead -/
structure Una where
  text : List UInt8
  op : Int
  val : Int
  bound : Int
  toks : List Tok
def unaL : List Una := [⟨[33], 4, 0, 0, [⟨3, [33], 0⟩]⟩, ⟨[88], 8, 0, 0, [⟨1, [88], 0⟩]⟩, ⟨[70], 11, 0, 0, [⟨1, [70], 0⟩]⟩, ⟨[71], 12, 0, 0, [⟨1, [71], 0⟩]⟩, ⟨[70, 91, 55, 93], 13, 0, 7, [⟨1, [70], 0⟩, ⟨3, [91], 1⟩, ⟨2, [55], 2⟩, ⟨3, [93], 3⟩]⟩, ⟨[71, 91, 48, 93], 14, 0, 0, [⟨1, [71], 0⟩, ⟨3, [91], 1⟩, ⟨2, [48], 2⟩, ⟨3, [93], 3⟩]⟩, ⟨[89], 15, 0, 0, [⟨1, [89], 0⟩]⟩, ⟨[90], 15, 1, 0, [⟨1, [90], 0⟩]⟩, ⟨[79], 18, 0, 0, [⟨1, [79], 0⟩]⟩, ⟨[72], 19, 0, 0, [⟨1, [72], 0⟩]⟩]
theorem una_reads : ∀ o ∈ unaL, Reads (o.text ++ [40]) (o.toks ++ [⟨3, [40], o.text.length⟩]) ∧ o.text.length ≤ 4 ∧ o.toks.length ≤ 4 := by
  intro o ho
  simp only [unaL, List.mem_cons, List.not_mem_nil, or_false] at ho
  rcases ho with rfl | rfl | rfl | rfl | rfl | rfl | rfl | rfl | rfl | rfl
  · exact ⟨fun u => .step (a1 := 1) (by simp) (not_step _) (.step (a1 := 2) (by simp) (sym_at rfl (by simp) (by simp)) (.refl _ _)), by simp, by simp⟩
  · exact ⟨fun u => .step (a1 := 1) (by simp) rfl (.step (a1 := 2) (by simp) (sym_at rfl (by simp) (by simp)) (.refl _ _)), by simp, by simp⟩
  · exact ⟨fun u => .step (a1 := 1) (by simp) rfl (.step (a1 := 2) (by simp) (sym_at rfl (by simp) (by simp)) (.refl _ _)), by simp, by simp⟩
  · exact ⟨fun u => .step (a1 := 1) (by simp) rfl (.step (a1 := 2) (by simp) (sym_at rfl (by simp) (by simp)) (.refl _ _)), by simp, by simp⟩
  · exact ⟨fun u => .step (a1 := 1) (by simp) rfl (.step (a1 := 2) (by simp) (sym_at rfl (by simp) (by simp)) (.step (a1 := 3) (by simp) rfl (.step (a1 := 4) (by simp) (sym_at rfl (by simp) (by simp)) (.step (a1 := 5) (by simp) (sym_at rfl (by simp) (by simp)) (.refl _ _))))), by simp, by simp⟩
  · exact ⟨fun u => .step (a1 := 1) (by simp) rfl (.step (a1 := 2) (by simp) (sym_at rfl (by simp) (by simp)) (.step (a1 := 3) (by simp) rfl (.step (a1 := 4) (by simp) (sym_at rfl (by simp) (by simp)) (.step (a1 := 5) (by simp) (sym_at rfl (by simp) (by simp)) (.refl _ _))))), by simp, by simp⟩
  · exact ⟨fun u => .step (a1 := 1) (by simp) rfl (.step (a1 := 2) (by simp) (sym_at rfl (by simp) (by simp)) (.refl _ _)), by simp, by simp⟩
  · exact ⟨fun u => .step (a1 := 1) (by simp) rfl (.step (a1 := 2) (by simp) (sym_at rfl (by simp) (by simp)) (.refl _ _)), by simp, by simp⟩
  · exact ⟨fun u => .step (a1 := 1) (by simp) rfl (.step (a1 := 2) (by simp) (sym_at rfl (by simp) (by simp)) (.refl _ _)), by simp, by simp⟩
  · exact ⟨fun u => .step (a1 := 1) (by simp) rfl (.step (a1 := 2) (by simp) (sym_at rfl (by simp) (by simp)) (.refl _ _)), by simp, by simp⟩

/-! ### Runs over operators -/
theorem idx0 {o : Opr} (r : List Tok) (h : o.indexed = 0) : Run (indexG o) r (.ok (none, r)) := by
  unfold indexG; rw [if_pos h]; exact Run.ret _ _
theorem idxNo {o : Opr} {r : List Tok} (h : seesB [91] (r.head?.map bare) = false) : Run (indexG o) r (.ok (none, r)) := by
  unfold indexG
  split
  · exact Run.ret _ _
  · exact run_no h (Run.ret _ _)
theorem idxYes {o : Opr} {x y z : Tok} {r : List Tok} (h : o.indexed ≠ 0) (hx : bare x = (3, [91])) (hy : y.kind = 2) (hz : bare z = (3, [93])) : Run (indexG o) (x :: y :: z :: r) (.ok (some (numOf y.text), r)) := by
  unfold indexG
  rw [if_neg h]
  exact run_yes (by rw [hx]; decide) (run_number hy (run_expect (by rw [hz]; decide) (Run.ret _ _)))
theorem until_bin {l r r2 : List Tok} {t1 : Tok} {o : Opr} {n : Option Int} {f g : Fml} (h1 : RunN .unary l (.ok (f, t1 :: r))) (ht : infixT.lookup t1.text = some o) (hi : Run (indexG o) r (.ok (n, r2))) (h2 : RunN .untilN r2 (.ok (g, []))) :
    RunN .untilN l (.ok (⟨o.op, [], n.getD o.val, 0, [f, g]⟩, [])) :=
  Run.call h1 (run_take ht (hi.bind (Run.call h2 (Run.ret _ _))))
theorem unary_pre {r r2 r3 : List Tok} {t1 : Tok} {o : Opr} {n : Option Int} {g : Fml} (ht : prefixT.lookup t1.text = some o) (hi : Run (indexG o) r (.ok (n, r2))) (h2 : RunN .unary r2 (.ok (g, r3))) :
    RunN .unary (t1 :: r) (.ok (match n with | some n => ⟨o.indexed, [], o.val, n, [g]⟩ | none => ⟨o.op, [], o.val, 0, [g]⟩, r3)) := by
  refine run_take ht (hi.bind (Run.call h2 ?_))
  cases n <;> exact Run.ret _ _
theorem or_two {l r : List Tok} {t1 : Tok} {f g : Fml} (h1 : RunN .andN l (.ok (f, t1 :: r))) (ht : seesB [124] (some (bare t1)) = true) (h2 : RunN .andN r (.ok (g, []))) : RunN .orN l (.ok (⟨6, [], 0, 0, [f, g]⟩, [])) :=
  Run.call h1 (Run.call (show RunN .orL (t1 :: r) (.ok ([g], [])) from run_yes ht (Run.call h2 (Run.call (show RunN .orL [] (.ok ([], [])) from run_no rfl (Run.ret _ _)) (Run.ret _ _)))) (Run.ret _ _))
theorem and_two {l r : List Tok} {t1 : Tok} {f g : Fml} (h1 : RunN .untilN l (.ok (f, t1 :: r))) (ht : seesB [38] (some (bare t1)) = true) (h2 : RunN .untilN r (.ok (g, []))) : RunN .andN l (.ok (⟨5, [], 0, 0, [f, g]⟩, [])) :=
  Run.call h1 (Run.call (show RunN .andL (t1 :: r) (.ok ([g], [])) from run_yes ht (Run.call h2 (Run.call (show RunN .andL [] (.ok ([], [])) from run_no rfl (Run.ret _ _)) (Run.ret _ _)))) (Run.ret _ _))
theorem imp_two {l r : List Tok} {t1 : Tok} {f g : Fml} (h1 : RunN .orN l (.ok (f, t1 :: r))) (ht : seesB [45, 62] (some (bare t1)) = true) (h2 : RunN .formula r (.ok (g, []))) : RunN .formula l (.ok (⟨7, [], 0, 0, [f, g]⟩, [])) :=
  Run.call h1 (run_yes ht (Run.call h2 (Run.ret _ _)))
end Go.Proofs.YtmnhnbpnjepkbaaGreatDoor

namespace Go.Proofs.YtmnhnbpnjepkbaaGreatDoor
open Go.RowKit
set_option linter.unusedVariables false

theorem idxNoC {o : Opr} {x : Tok} {r : List Tok} (h : seesB [91] (some (bare x)) = false) : Run (indexG o) (x :: r) (.ok (none, x :: r)) := idxNo h
theorem bin_run {o : Bin} (ho : o ∈ binL) (n : Nat) {x y x' y' : Tok} {A B : List Tok} {f g : Fml} (hx : bare x = (3, [40])) (hy : bare y = (3, [41])) (hx' : bare x' = (3, [40])) (hy' : bare y' = (3, [41]))
    (hA : RunN .formula A (.ok (f, []))) (hB : RunN .formula B (.ok (g, []))) : RunN .formula (x :: (A ++ y :: (o.toks.map (shT n) ++ x' :: (B ++ [y'])))) (.ok (⟨o.op, [], o.val, 0, [f, g]⟩, [])) := by
  have h2 : RunN .unary (x' :: (B ++ [y'])) (.ok (g, [])) := paren [] hx' hy' hB
  have h1 : ∀ r, RunN .unary (x :: (A ++ y :: r)) (.ok (f, r)) := fun r => paren r hx hy hA
  have u2 := up_until h2 (fun x hx => by cases hx)
  have hx0 : seesB [91] (some (bare x')) = false := by rw [hx']; decide
  simp only [binL, List.mem_cons, List.not_mem_nil, or_false] at ho
  rcases ho with rfl | rfl | rfl | rfl | rfl | rfl | rfl | rfl | rfl
  · exact imp_two (up_or (up_and (up_until (h1 _) (fun z hz => by cases hz; rfl)) rfl) rfl) rfl (up_all h2)
  · exact up_imp (or_two (up_and (up_until (h1 _) (fun z hz => by cases hz; rfl)) rfl) rfl (up_and u2 rfl)) rfl
  · exact up_imp (up_or (and_two (up_until (h1 _) (fun z hz => by cases hz; rfl)) rfl u2) rfl) rfl
  · exact up_imp (up_or (up_and (until_bin (o := ⟨9, 0, 0⟩) (h1 _) rfl (idx0 _ rfl) u2) rfl) rfl) rfl
  · exact up_imp (up_or (up_and (until_bin (o := ⟨10, 0, 0⟩) (h1 _) rfl (idx0 _ rfl) u2) rfl) rfl) rfl
  · exact up_imp (up_or (up_and (until_bin (o := ⟨16, 16, 0⟩) (h1 _) rfl (idxNoC hx0) u2) rfl) rfl) rfl
  · exact up_imp (up_or (up_and (until_bin (o := ⟨17, 17, 1⟩) (h1 _) rfl (idxNoC hx0) u2) rfl) rfl) rfl
  · exact up_imp (up_or (up_and (until_bin (o := ⟨16, 16, 0⟩) (h1 _) rfl (idxYes (by decide) rfl rfl rfl) u2) rfl) rfl) rfl
  · exact up_imp (up_or (up_and (until_bin (o := ⟨17, 17, 1⟩) (h1 _) rfl (idxYes (by decide) rfl rfl rfl) u2) rfl) rfl) rfl
theorem una_run {o : Una} (ho : o ∈ unaL) {x y : Tok} {A : List Tok} {f : Fml} (hx : bare x = (3, [40])) (hy : bare y = (3, [41])) (hA : RunN .formula A (.ok (f, []))) :
    RunN .formula (o.toks ++ x :: (A ++ [y])) (.ok (⟨o.op, [], o.val, o.bound, [f]⟩, [])) := by
  have h1 : RunN .unary (x :: (A ++ [y])) (.ok (f, [])) := paren [] hx hy hA
  have hx0 : seesB [91] (some (bare x)) = false := by rw [hx]; decide
  simp only [unaL, List.mem_cons, List.not_mem_nil, or_false] at ho
  rcases ho with rfl | rfl | rfl | rfl | rfl | rfl | rfl | rfl | rfl | rfl
  · exact up_all (unary_pre (o := ⟨4, 0, 0⟩) (n := none) rfl (idx0 _ rfl) h1)
  · exact up_all (unary_pre (o := ⟨8, 0, 0⟩) (n := none) rfl (idx0 _ rfl) h1)
  · exact up_all (unary_pre (o := ⟨11, 13, 0⟩) (n := none) rfl (idxNoC hx0) h1)
  · exact up_all (unary_pre (o := ⟨12, 14, 0⟩) (n := none) rfl (idxNoC hx0) h1)
  · exact up_all (unary_pre (o := ⟨11, 13, 0⟩) (n := some 7) rfl (idxYes (y := ⟨2, [55], 2⟩) (by decide) rfl rfl rfl) h1)
  · exact up_all (unary_pre (o := ⟨12, 14, 0⟩) (n := some 0) rfl (idxYes (y := ⟨2, [48], 2⟩) (by decide) rfl rfl rfl) h1)
  · exact up_all (unary_pre (o := ⟨15, 0, 0⟩) (n := none) rfl (idx0 _ rfl) h1)
  · exact up_all (unary_pre (o := ⟨15, 0, 1⟩) (n := none) rfl (idx0 _ rfl) h1)
  · exact up_all (unary_pre (o := ⟨18, 0, 0⟩) (n := none) rfl (idx0 _ rfl) h1)
  · exact up_all (unary_pre (o := ⟨19, 0, 0⟩) (n := none) rfl (idx0 _ rfl) h1)

theorem closedT_eq (a : List UInt8) : 40 :: (a ++ [10, 41]) = closedT a := by simp [closedT, tailT]
/-- what is read of a closed text -/
theorem closed_reads {a : List UInt8} {A : List Tok} (h : lexM a = .ok A) (hc : A.length + 2 ≤ 2000) : ∃ (x y : Tok) (B : List Tok), bare x = (3, [40]) ∧ bare y = (3, [41]) ∧ B.map bare = A.map bare ∧ B.length = A.length ∧ Reads (closedT a) (x :: (B ++ [y])) :=
  reads_closed (p := [40]) (us := []) (x := ⟨3, [40], 0⟩) reads_open rfl h (by simpa using hc)
theorem closed_law {a : List UInt8} {A : List Tok} {f : Fml} (h : lexM a = .ok A) (hr : RunN .formula A (.ok (f, []))) (ha : a.length ≤ 2900) (hc : A.length ≤ 900) : PRes .formula (closedT a) (.ok f) := by
  obtain ⟨x, y, B, hx, hy, hb, _, hR⟩ := closed_reads h (by omega)
  exact PRes.ofRun (hR.lex (by rw [closedT_len]; omega)) (up_all (paren [] hx hy (formula_bare hr hb)))
theorem bin_law {o : Bin} (ho : o ∈ binL) {a b : List UInt8} {A B : List Tok} {f g : Fml} (h : lexM a = .ok A) (hr : RunN .formula A (.ok (f, []))) (h' : lexM b = .ok B) (hr' : RunN .formula B (.ok (g, [])))
    (ha : a.length ≤ 2900) (hb : b.length ≤ 2900) (hc : A.length ≤ 900) (hd : B.length ≤ 900) : PRes .formula (closedT a ++ o.text ++ closedT b) (.ok ⟨o.op, [], o.val, 0, [f, g]⟩) := by
  obtain ⟨o1, o2, o3⟩ := bin_reads o ho
  obtain ⟨x, y, A', hx, hy, hbA, hlA, R1⟩ := closed_reads h (by omega)
  have R2 := R1.cat o1 (by simp; omega)
  replace R2 : Reads (closedT a ++ (o.text ++ [40])) (x :: (A' ++ [y]) ++ o.toks.map (shT (closedT a).length) ++ [shT (closedT a).length ⟨3, [40], o.text.length⟩]) := by
    simp only [List.map_append, List.map_cons, List.map_nil, List.append_assoc, List.cons_append] at R2 ⊢
    exact R2
  obtain ⟨x', y', B', hx', hy', hbB, hlB, R3⟩ := reads_closed (us := x :: (A' ++ [y]) ++ o.toks.map (shT (closedT a).length)) (x := shT (closedT a).length ⟨3, [40], o.text.length⟩) R2 rfl h' (by simp; omega)
  have e : closedT a ++ (o.text ++ [40]) ++ tailT b = closedT a ++ o.text ++ closedT b := by simp [closedT]
  rw [e] at R3
  refine PRes.ofRun (R3.lex (by simp [closedT_len]; omega)) ?_
  have := bin_run ho (closedT a).length hx hy hx' hy' (formula_bare hr hbA) (formula_bare hr' hbB)
  simpa using this
theorem una_law {o : Una} (ho : o ∈ unaL) {a : List UInt8} {A : List Tok} {f : Fml} (h : lexM a = .ok A) (hr : RunN .formula A (.ok (f, []))) (ha : a.length ≤ 2900) (hc : A.length ≤ 900) : PRes .formula (o.text ++ closedT a) (.ok ⟨o.op, [], o.val, o.bound, [f]⟩) := by
  obtain ⟨o1, o2, o3⟩ := una_reads o ho
  obtain ⟨x, y, A', hx, hy, hbA, hlA, R1⟩ := reads_closed (x := ⟨3, [40], o.text.length⟩) o1 rfl h (by omega)
  have e : (o.text ++ [40]) ++ tailT a = o.text ++ closedT a := by simp [closedT]
  rw [e] at R1
  exact PRes.ofRun (R1.lex (by simp [closedT_len]; omega)) (una_run ho hx hy (formula_bare hr hbA))

/-! ### The tables -/
def intsV (l : List Int) : List Value := l.map fun n => .int .i64 n
theorem operators_ok (w : World) : Fn Tryz.prog 17 [] w fun v w' => ∃ b1 b2 b3 : Nat, v = .tuple #[.slice (some ⟨b1, 0, none⟩) 9 9, .slice (some ⟨b2, 0, none⟩) 9 9, .slice (some ⟨b3, 0, none⟩) 9 9] ∧ Ext w w' ∧
    Cells w' b1 0 (binL.map fun o => strV o.text) ∧ Cells w' b2 0 (intsV (binL.map (·.op))) ∧ Cells w' b3 0 (intsV (binL.map (·.val))) := by
  refine fn_of_wc Tryz.func17 rfl Tryz.ntmps17 (Nat.le_of_ble_eq_true rfl) (by kernel_rfl) ?_
  repeat' first | refine nx ?_ | refine C_cond_t rfl ?_ | refine C_cond_f rfl ?_ | refine Q_block_on rfl ?_
  (refine C_region ?_
   <;> (refine M_assign ?_; (first | refine M_slice rfl ?_ | refine W_move ?_))
   <;> (refine M_assign ?_; (first | refine M_slice rfl ?_ | refine W_move ?_))
   <;> (refine M_assign ?_; (first | refine M_slice rfl ?_ | refine W_move ?_))
   <;> refine W_nil ?_)
  repeat' first | refine nx ?_ | refine C_cond_t rfl ?_ | refine C_cond_f rfl ?_ | refine Q_block_on rfl ?_
  refine C_region ?_
  refine W_buildSlice1 (out := binL.map fun o => strV o.text) rfl (by omega) rfl (by kernel_rfl) (fun w1 n1 => ?_)
  refine W_buildSlice1 (out := intsV (binL.map (·.op))) rfl (by omega) rfl (by kernel_rfl) (fun w2 n2 => ?_)
  refine W_buildSlice1 (out := intsV (binL.map (·.val))) rfl (by omega) rfl (by kernel_rfl) (fun w3 n3 => ?_)
  ((refine M_assign ?_; (first | refine M_slice rfl ?_ | refine W_move ?_))
   <;> (refine M_assign ?_; (first | refine M_slice rfl ?_ | refine W_move ?_))
   <;> (refine M_assign ?_; (first | refine M_slice rfl ?_ | refine W_move ?_))
   <;> refine W_nil ?_)
  repeat' first | refine nx ?_ | refine C_cond_t rfl ?_ | refine C_cond_f rfl ?_ | refine Q_block_on rfl ?_
  exact fin_ret3 rfl ⟨_, _, _, rfl, (n1.keep.trans n2.keep).trans n3.keep, ((n1.blk.keep n2.keep (by simp)).keep n3.keep (by simp)).cells, (n2.blk.keep n3.keep (by simp)).cells, n3.blk.cells⟩
theorem fin_ret4' {P : Program} {fn : Func} {R : Value → World → Prop} {Y : List PanicEntry → World → Prop} {f : Fr} {w : World} {t u v x : Nat} (hr : fn.results.toList = [.tmp t, .tmp u, .tmp v, .tmp x]) (h : R (.tuple #[f t, f u, f v, f x]) w) : finQ P fn R Y .ret f [] w := by
  unfold finQ
  exact ⟨rfl, by rw [hr]; exact h⟩
theorem before_ok (w : World) : Fn Tryz.prog 18 [] w fun v w' => ∃ b1 b2 b3 b4 : Nat, v = .tuple #[.slice (some ⟨b1, 0, none⟩) 10 10, .slice (some ⟨b2, 0, none⟩) 10 10, .slice (some ⟨b3, 0, none⟩) 10 10, .slice (some ⟨b4, 0, none⟩) 10 10] ∧ Ext w w' ∧
    Cells w' b1 0 (unaL.map fun o => strV o.text) ∧ Cells w' b2 0 (intsV (unaL.map (·.op))) ∧ Cells w' b3 0 (intsV (unaL.map (·.val))) ∧ Cells w' b4 0 (intsV (unaL.map (·.bound))) := by
  refine fn_of_wc Tryz.func18 rfl Tryz.ntmps18 (Nat.le_of_ble_eq_true rfl) (by kernel_rfl) ?_
  repeat' first | refine nx ?_ | refine C_cond_t rfl ?_ | refine C_cond_f rfl ?_ | refine Q_block_on rfl ?_
  (refine C_region ?_
   <;> (refine M_assign ?_; (first | refine M_slice rfl ?_ | refine W_move ?_))
   <;> (refine M_assign ?_; (first | refine M_slice rfl ?_ | refine W_move ?_))
   <;> (refine M_assign ?_; (first | refine M_slice rfl ?_ | refine W_move ?_))
   <;> (refine M_assign ?_; (first | refine M_slice rfl ?_ | refine W_move ?_))
   <;> refine W_nil ?_)
  repeat' first | refine nx ?_ | refine C_cond_t rfl ?_ | refine C_cond_f rfl ?_ | refine Q_block_on rfl ?_
  refine C_region ?_
  refine W_buildSlice1 (out := unaL.map fun o => strV o.text) rfl (by omega) rfl (by kernel_rfl) (fun w1 n1 => ?_)
  refine W_buildSlice1 (out := intsV (unaL.map (·.op))) rfl (by omega) rfl (by kernel_rfl) (fun w2 n2 => ?_)
  refine W_buildSlice1 (out := intsV (unaL.map (·.val))) rfl (by omega) rfl (by kernel_rfl) (fun w3 n3 => ?_)
  refine W_buildSlice1 (out := intsV (unaL.map (·.bound))) rfl (by omega) rfl (by kernel_rfl) (fun w4 n4 => ?_)
  ((refine M_assign ?_; (first | refine M_slice rfl ?_ | refine W_move ?_))
   <;> (refine M_assign ?_; (first | refine M_slice rfl ?_ | refine W_move ?_))
   <;> (refine M_assign ?_; (first | refine M_slice rfl ?_ | refine W_move ?_))
   <;> (refine M_assign ?_; (first | refine M_slice rfl ?_ | refine W_move ?_))
   <;> refine W_nil ?_)
  repeat' first | refine nx ?_ | refine C_cond_t rfl ?_ | refine C_cond_f rfl ?_ | refine Q_block_on rfl ?_
  exact fin_ret4' rfl ⟨_, _, _, _, rfl, ((n1.keep.trans n2.keep).trans n3.keep).trans n4.keep, (((n1.blk.keep n2.keep (by simp)).keep n3.keep (by simp)).keep n4.keep (by simp)).cells, ((n2.blk.keep n3.keep (by simp)).keep n4.keep (by simp)).cells, (n3.blk.keep n4.keep (by simp)).cells, n4.blk.cells⟩
end Go.Proofs.YtmnhnbpnjepkbaaGreatDoor
