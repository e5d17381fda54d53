/- The parser's plain law: where formulas stop, formulas in parentheses, operators between and ahead. The parser's plain law: texts in parentheses, operators between and ahead. The parser's plain law: a specification with a further part, edits of the same text. The reference: names, keywords; Spec and Edit as cells. Conditions: none. -/
import Derived.Test.YtmnhnbpnjepkbaaGreatDoorK1A15

namespace Go.Proofs.YtmnhnbpnjepkbaaGreatDoor
set_option linter.unusedVariables false

/-! ### Stoppers -/
theorem G.bind_assoc {α β γ : Type} (p : G α) (u : α → G β) (q : β → G γ) : (p.bind u).bind q = p.bind fun a => (u a).bind q := by
  induction p with
  | ret a => rfl
  | fail => rfl
  | look k ih => simp only [G.bind]; congr 1; funext o; exact ih o
  | next g ih => simp only [G.bind]; rw [ih]
  | call nt k ih => simp only [G.bind]; congr 1; funext v; exact ih v
theorem good_accepts {S : NT → Prop} {x : BT} {α : Type} {s : List UInt8} {q : Bool → G α} (hx : seesB s (some x) = false) (ht : Good S x false (q true)) (hf : ∀ b, Good S x b (q false)) (b : Bool) : Good S x b ((accepts s).bind q) := by
  refine ⟨fun y => ?_, .inr (.inr ⟨?_, ?_⟩)⟩
  · show Good S x true (G.bind (if seesB s (some y) = true then .next (.ret true) else .ret false) q)
    split
    · exact ⟨rfl, ht⟩
    · exact hf true
  · show G.bind (if seesB s none = true then .next (.ret true) else .ret false) q = G.bind (if seesB s (some x) = true then .next (.ret true) else .ret false) q
    rw [hx]; rfl
  · exact hf false
theorem good_expect {S : NT → Prop} {x : BT} {α : Type} {s : List UInt8} {q : Unit → G α} (h : Good S x false (q ())) (b : Bool) : Good S x b ((expect s).bind q) := by
  refine ⟨fun y => ?_, .inr (.inl rfl)⟩
  show Good S x true (G.bind (if seesB s (some y) = true then .next (.ret ()) else .fail) q)
  split
  · exact ⟨rfl, h⟩
  · trivial
theorem good_name {S : NT → Prop} {x : BT} {α : Type} {q : List UInt8 → G α} (h : ∀ s, Good S x false (q s)) (b : Bool) : Good S x b (nameG.bind q) := by
  refine ⟨fun y => ?_, .inr (.inl rfl)⟩
  show Good S x true (G.bind (if decide (y.1 = 1) && nameB y.2 then .next (.ret y.2) else .fail) q)
  split
  · exact ⟨rfl, h _⟩
  · trivial
theorem good_number {S : NT → Prop} {x : BT} {α : Type} {q : Int → G α} (h : ∀ n, Good S x false (q n)) (b : Bool) : Good S x b (numberG.bind q) := by
  refine ⟨fun y => ?_, .inr (.inl rfl)⟩
  show Good S x true (G.bind (if decide (y.1 = 2) then .next (.ret (numOf y.2)) else .fail) q)
  split
  · exact ⟨rfl, h _⟩
  · trivial
theorem good_take {S : NT → Prop} {x : BT} {α : Type} {tab : List (List UInt8 × Opr)} {q : Option Opr → G α} (hx : tab.lookup x.2 = none) (h : ∀ p, Good S x false (q (some p))) (hn : ∀ b, Good S x b (q none)) (b : Bool) : Good S x b ((takeG tab).bind q) := by
  refine ⟨fun y => ?_, .inr (.inr ⟨?_, hn false⟩)⟩
  · show Good S x true (G.bind (match tab.lookup y.2 with | some p => .next (.ret (some p)) | none => .ret none) q)
    cases tab.lookup y.2 with
    | none => exact hn true
    | some p => exact ⟨rfl, h p⟩
  · show q none = G.bind (match tab.lookup x.2 with | some p => .next (.ret (some p)) | none => .ret none) q
    rw [hx]; rfl
theorem good_index {S : NT → Prop} {x : BT} {α : Type} {o : Opr} {q : Option Int → G α} (hx : seesB [91] (some x) = false) (h : ∀ n b, Good S x b (q n)) (b : Bool) : Good S x b ((indexG o).bind q) := by
  unfold indexG
  split
  · exact h none b
  · rw [G.bind_assoc]
    refine good_accepts hx ?_ (fun b => h none b) b
    show Good S x false ((numberG.bind fun n => (expect [93]).bind fun _ => .ret (some n)).bind q)
    rw [G.bind_assoc]
    refine good_number (fun n => ?_) false
    rw [G.bind_assoc]
    exact good_expect (h _ _) false
theorem good_call {S : NT → Prop} {x : BT} {α : Type} {b : Bool} {nt : NT} {k : nt.T → G α} (hs : S nt) (h : ∀ v, Good S x false (k v)) : Good S x b (.call nt k) := And.intro hs h
theorem good_ret {S : NT → Prop} {x : BT} {α : Type} {b : Bool} {a : α} : Good S x b (.ret a) := trivial
def fmlS : NT → Prop
  | .formula => True
  | .orN => True
  | .orL => True
  | .andN => True
  | .andL => True
  | .untilN => True
  | .unary => True
  | .primary => True
  | _ => False
/-- a token behind which no formula goes on -/
structure StopF (x : BT) : Prop where
  imp : seesB [45, 62] (some x) = false
  or : seesB [124] (some x) = false
  and : seesB [38] (some x) = false
  tru : seesB [116, 114, 117, 101] (some x) = false
  fls : seesB [102, 97, 108, 115, 101] (some x) = false
  opn : seesB [40] (some x) = false
  eq : seesB [61] (some x) = false
  ne : seesB [33, 61] (some x) = false
  br : seesB [91] (some x) = false
  pre : prefixT.lookup x.2 = none
  inf : infixT.lookup x.2 = none
theorem good_formula {S : NT → Prop} {x : BT} (hS : ∀ nt, fmlS nt → S nt) (h : StopF x) : ∀ nt, fmlS nt → Good S x false (body nt)
  | .formula, _ => good_call (hS .orN trivial) fun a => by
    refine good_accepts h.imp ?_ (fun _ => ?_) false
    · exact good_call (hS .formula trivial) fun _ => good_ret
    · exact good_ret
  | .orN, _ => good_call (hS .andN trivial) fun a => good_call (hS .orL trivial) fun _ => good_ret
  | .orL, _ => by
    refine good_accepts h.or ?_ (fun _ => ?_) false
    · exact good_call (hS .andN trivial) fun a => good_call (hS .orL trivial) fun _ => good_ret
    · exact good_ret
  | .andN, _ => good_call (hS .untilN trivial) fun a => good_call (hS .andL trivial) fun _ => good_ret
  | .andL, _ => by
    refine good_accepts h.and ?_ (fun _ => ?_) false
    · exact good_call (hS .untilN trivial) fun a => good_call (hS .andL trivial) fun _ => good_ret
    · exact good_ret
  | .untilN, _ => good_call (hS .unary trivial) fun a => by
    refine good_take h.inf (fun o => ?_) (fun _ => ?_) false
    · refine good_index h.br (fun n b => ?_) false
      exact good_call (hS .untilN trivial) fun _ => good_ret
    · exact good_ret
  | .unary, _ => by
    refine good_take h.pre (fun o => ?_) (fun _ => ?_) false
    · refine good_index h.br (fun n b => ?_) false
      exact good_call (hS .unary trivial) fun _ => good_ret
    · exact good_call (hS .primary trivial) fun _ => good_ret
  | .primary, _ => by
    refine good_accepts h.tru ?_ (fun b => ?_) false
    · exact good_ret
    refine good_accepts h.fls ?_ (fun b => ?_) b
    · exact good_ret
    refine good_accepts h.opn ?_ (fun b => ?_) b
    · refine good_call (hS .formula trivial) fun f => ?_
      refine good_expect ?_ false
      exact good_ret
    refine good_name (fun s => ?_) b
    refine good_accepts h.eq ?_ (fun b => ?_) false
    · refine good_number (fun n => ?_) false
      exact good_ret
    refine good_accepts h.ne ?_ (fun _ => ?_) b
    · refine good_number (fun n => ?_) false
      exact good_ret
    · exact good_ret
theorem stop_close : StopF (3, [41]) := ⟨by decide, by decide, by decide, by decide, by decide, by decide, by decide, by decide, by decide, by decide, by decide⟩

/-! ### Steps of a run -/
theorem run_yes {β : Type} {s : List UInt8} {q : Bool → G β} {x : Tok} {l : List Tok} {r : Ans β} (h : seesB s (some (bare x)) = true) (h' : Run (q true) l r) : Run ((accepts s).bind q) (x :: l) r := by
  have : Run (accepts s) (x :: l) (.ok (true, l)) := Run.look (by
    show Run (if seesB s (some (bare x)) = true then .next (.ret true) else .ret false) _ _
    rw [if_pos h]; exact Run.next (Run.ret _ _))
  exact this.bind h'
theorem run_no {β : Type} {s : List UInt8} {q : Bool → G β} {l : List Tok} {r : Ans β} (h : seesB s (l.head?.map bare) = false) (h' : Run (q false) l r) : Run ((accepts s).bind q) l r := by
  have : Run (accepts s) l (.ok (false, l)) := Run.look (by
    show Run (if seesB s (l.head?.map bare) = true then .next (.ret true) else .ret false) _ _
    rw [h]; exact Run.ret _ _)
  exact this.bind h'
theorem run_expect {β : Type} {s : List UInt8} {q : Unit → G β} {x : Tok} {l : List Tok} {r : Ans β} (h : seesB s (some (bare x)) = true) (h' : Run (q ()) l r) : Run ((expect s).bind q) (x :: l) r := by
  have : Run (expect s) (x :: l) (.ok ((), l)) := Run.look (by
    show Run (if seesB s (some (bare x)) = true then .next (.ret ()) else .fail) _ _
    rw [if_pos h]; exact Run.next (Run.ret _ _))
  exact this.bind h'
theorem run_name {β : Type} {q : List UInt8 → G β} {x : Tok} {l : List Tok} {r : Ans β} (hk : x.kind = 1) (hn : nameB x.text = true) (h' : Run (q x.text) l r) : Run (nameG.bind q) (x :: l) r := by
  have : Run nameG (x :: l) (.ok (x.text, l)) := Run.look (by
    show Run (if decide (x.kind = 1) && nameB x.text then .next (.ret x.text) else .fail) _ _
    rw [if_pos (by simp [hk, hn])]; exact Run.next (Run.ret _ _))
  exact this.bind h'
theorem run_number {β : Type} {q : Int → G β} {x : Tok} {l : List Tok} {r : Ans β} (hk : x.kind = 2) (h' : Run (q (numOf x.text)) l r) : Run (numberG.bind q) (x :: l) r := by
  have : Run numberG (x :: l) (.ok (numOf x.text, l)) := Run.look (by
    show Run (if decide (x.kind = 2) then .next (.ret (numOf x.text)) else .fail) _ _
    rw [if_pos (by simp [hk])]; exact Run.next (Run.ret _ _))
  exact this.bind h'
theorem run_take {β : Type} {tab : List (List UInt8 × Opr)} {q : Option Opr → G β} {x : Tok} {l : List Tok} {o : Opr} {r : Ans β} (h : tab.lookup x.text = some o) (h' : Run (q (some o)) l r) : Run ((takeG tab).bind q) (x :: l) r := by
  have : Run (takeG tab) (x :: l) (.ok (some o, l)) := Run.look (by
    show Run (match tab.lookup x.text with | some p => .next (.ret (some p)) | none => .ret none) _ _
    rw [h]; exact Run.next (Run.ret _ _))
  exact this.bind h'
theorem run_take_no {β : Type} {tab : List (List UInt8 × Opr)} {q : Option Opr → G β} {l : List Tok} {r : Ans β} (h : ∀ x, l.head? = some x → tab.lookup x.text = none) (h' : Run (q none) l r) : Run ((takeG tab).bind q) l r := by
  have : Run (takeG tab) l (.ok (none, l)) := Run.look (by
    cases l with
    | nil => exact Run.ret _ _
    | cons x l =>
      show Run (match tab.lookup x.text with | some p => .next (.ret (some p)) | none => .ret none) _ _
      rw [h x rfl]; exact Run.ret _ _)
  exact this.bind h'

/-! ### Parentheses -/
/-- what stands behind a formula of the inmost level does not go on with it, up to a level -/
structure Beyond (r : List Tok) : Prop where
  inf : ∀ x, r.head? = some x → infixT.lookup x.text = none
theorem paren {x y : Tok} {A : List Tok} {f : Fml} (r : List Tok) (hx : bare x = (3, [40])) (hy : bare y = (3, [41])) (h : RunN .formula A (.ok (f, []))) : RunN .unary (x :: (A ++ y :: r)) (.ok (f, r)) := by
  have h1 : RunN .formula (A ++ y :: r) (.ok (f, y :: r)) := RunN.stop (S := fmlS) (nt := .formula) (fun nt => good_formula (fun _ h => h) (by rw [hy]; exact stop_close) nt) trivial r h
  have hxt : x.text = [40] := congrArg Prod.snd hx
  have hp : RunN .primary (x :: (A ++ y :: r)) (.ok (f, r)) := by
    refine run_no (by show seesB _ (some (bare x)) = false; rw [hx]; decide) (run_no (by show seesB _ (some (bare x)) = false; rw [hx]; decide) (run_yes (by rw [hx]; decide) ?_))
    exact Run.call h1 (run_expect (by rw [hy]; decide) (Run.ret _ _))
  refine run_take_no (fun z hz => ?_) (Run.call hp (Run.ret _ _))
  cases hz
  rw [hxt]; decide
theorem up_until {l r : List Tok} {f : Fml} (h : RunN .unary l (.ok (f, r))) (hr : ∀ x, r.head? = some x → infixT.lookup x.text = none) : RunN .untilN l (.ok (f, r)) :=
  Run.call h (run_take_no hr (Run.ret _ _))
theorem up_and {l r : List Tok} {f : Fml} (h : RunN .untilN l (.ok (f, r))) (hr : seesB [38] (r.head?.map bare) = false) : RunN .andN l (.ok (f, r)) :=
  Run.call h (Run.call (show RunN .andL r (.ok ([], r)) from run_no hr (Run.ret _ _)) (Run.ret _ _))
theorem up_or {l r : List Tok} {f : Fml} (h : RunN .andN l (.ok (f, r))) (hr : seesB [124] (r.head?.map bare) = false) : RunN .orN l (.ok (f, r)) :=
  Run.call h (Run.call (show RunN .orL r (.ok ([], r)) from run_no hr (Run.ret _ _)) (Run.ret _ _))
theorem up_imp {l r : List Tok} {f : Fml} (h : RunN .orN l (.ok (f, r))) (hr : seesB [45, 62] (r.head?.map bare) = false) : RunN .formula l (.ok (f, r)) :=
  Run.call h (run_no hr (Run.ret _ _))
theorem up_all {l : List Tok} {f : Fml} (h : RunN .unary l (.ok (f, []))) : RunN .formula l (.ok (f, [])) :=
  up_imp (up_or (up_and (up_until h (fun x hx => by cases hx)) rfl) rfl) rfl
theorem wholeF {l : List Tok} {f : Fml} (h : RunN .formula l (.ok (f, []))) : Run (whole .formula) l (.ok (f, [])) := Run.call h (Run.look (Run.ret _ _))
theorem wholeF_inv {l r : List Tok} {f : Fml} (h : Run (whole .formula) l (.ok (f, r))) : RunN .formula l (.ok (f, [])) := by
  rcases Run.call_inv h with ⟨u, m, h1, h2⟩ | ⟨e, _, h2⟩
  · cases m with
    | nil => cases h2.det (show Run (.look _) [] (.ok (u, [])) from Run.look (Run.ret _ _)); exact h1
    | cons x m => cases h2.det (show Run (.look _) (x :: m) (.error (x :: m)) from Run.look (Run.fail _))
  · cases h2
end Go.Proofs.YtmnhnbpnjepkbaaGreatDoor

namespace Go.Proofs.YtmnhnbpnjepkbaaGreatDoor
set_option linter.unusedVariables false

/-! ### What is read, one behind the other -/
theorem Reads.cat {s s' : List UInt8} {us us' : List Tok} (h : Reads s us) (h' : Reads s' us') (hc : us.length + us'.length ≤ 2000) : Reads (s ++ s') (us ++ us'.map (shT s.length)) := by
  intro u
  have h1 := h (s' ++ u)
  have h2 := (h' u).shift s us hc
  simp only [Nat.add_zero, List.map_nil, List.append_nil] at h2
  rw [List.append_assoc, List.length_append]
  exact h1.trans h2
theorem Reads.lex {s : List UInt8} {us : List Tok} (h : Reads s us) (hl : s.length ≤ 6000) : lexM s = .ok us := by
  have := h []
  rw [List.append_nil] at this
  exact lexM_reach hl this
/-- a text, a line feed, a token that stands alone whatever follows -/
theorem reads_line {a : List UInt8} {A : List Tok} (h : lexM a = .ok A) (hc : A.length ≤ 2000) : Reads (a ++ [10]) A := by
  intro u
  have h1 := (lexM_ok h).2.app u
  have h2 : Reach1 (([10] : List UInt8) ++ u) 0 [] 1 [] := .step (a1 := 1) (by simp) rfl (.refl _ _)
  have h2 := h2.shift a A (by simpa using hc)
  simp only [List.map_nil, List.append_nil, Nat.add_zero] at h2
  rw [List.append_assoc, List.length_append]
  exact h1.trans h2
/-- a symbol of one byte, whatever follows -/
theorem sym_at {t u : List UInt8} {a : Nat} {c : UInt8} {ts : List Tok} (hd : t.drop a = c :: u) (hc : c = 40 ∨ c = 41 ∨ c = 91 ∨ c = 93 ∨ c = 59 ∨ c = 58 ∨ c = 123 ∨ c = 125 ∨ c = 124 ∨ c = 38) (hts : ts.length < 2000) : stepM t a ts = .ok (a + 1, ts ++ [⟨3, [c], a⟩]) := by
  have hg : t.getD a 0 = c := by
    have h1 : (t.drop a).head? = some c := by rw [hd]; rfl
    rw [List.head?_drop] at h1
    rw [List.getD_eq_getElem?_getD, h1]; rfl
  have hk : kindB c = some 4 := by rcases hc with rfl | rfl | rfl | rfl | rfl | rfl | rfl | rfl | rfl | rfl <;> rfl
  have hf : symsL.find? (hasPre (t.drop a)) = some [c] := by
    rw [hd]
    rcases hc with rfl | rfl | rfl | rfl | rfl | rfl | rfl | rfl | rfl | rfl <;> simp [symsL, hasPre]
  have hx : (t.take (a + 1)).drop a = [c] := by
    rw [List.drop_take, hd, show a + 1 - a = 1 by omega]; rfl
  unfold stepM
  rw [hg, hk]
  show symM t a ts = _
  unfold symM
  rw [hf]
  show addM t a ts 3 (a + 1) = _
  unfold addM
  rw [if_neg (by omega), hx]
theorem imp_step (u : List UInt8) : stepM (45 :: 62 :: u) 0 [] = .ok (2, [⟨3, [45, 62], 0⟩]) := by
  have hf : symsL.find? (hasPre ((45 :: 62 :: u).drop 0)) = some [45, 62] := by simp [symsL, hasPre]
  have h : stepM (45 :: 62 :: u) 0 [] = symM (45 :: 62 :: u) 0 [] := rfl
  rw [h]
  unfold symM
  rw [hf]; rfl
theorem not_step (u : List UInt8) : stepM (33 :: 40 :: u) 0 [] = .ok (1, [⟨3, [33], 0⟩]) := by
  have hf : symsL.find? (hasPre ((33 :: 40 :: u).drop 0)) = some [33] := by simp [symsL, hasPre]
  have h : stepM (33 :: 40 :: u) 0 [] = symM (33 :: 40 :: u) 0 [] := rfl
  rw [h]
  unfold symM
  rw [hf]; rfl
theorem reads_open : Reads [40] [⟨3, [40], 0⟩] := fun u => .step (a1 := 1) (by simp) (sym_at rfl (by simp) (by simp)) (.refl _ _)
theorem reads_close : Reads [41] [⟨3, [41], 0⟩] := fun u => .step (a1 := 1) (by simp) (sym_at rfl (by simp) (by simp)) (.refl _ _)
/-- what stands behind the opening bracket -/
def tailT (a : List UInt8) : List UInt8 := (a ++ [10]) ++ [41]
def closedT (a : List UInt8) : List UInt8 := [40] ++ tailT a
theorem tailT_len (a : List UInt8) : (tailT a).length = a.length + 2 := by simp [tailT]
theorem closedT_len (a : List UInt8) : (closedT a).length = a.length + 3 := by simp [closedT, tailT_len]
theorem reads_tail {a : List UInt8} {A : List Tok} (h : lexM a = .ok A) (hc : A.length + 1 ≤ 2000) : ∃ y, bare y = (3, [41]) ∧ Reads (tailT a) (A ++ [y]) :=
  ⟨_, rfl, (reads_line h (by omega)).cat reads_close hc⟩
/-- a prefix that ends in an opening bracket, a text, a closing bracket -/
theorem reads_closed {p a : List UInt8} {us A : List Tok} {x : Tok} (hp : Reads p (us ++ [x])) (hx : bare x = (3, [40])) (h : lexM a = .ok A) (hc : us.length + A.length + 2 ≤ 2000) :
    ∃ (x y : Tok) (B : List Tok), bare x = (3, [40]) ∧ bare y = (3, [41]) ∧ B.map bare = A.map bare ∧ B.length = A.length ∧ Reads (p ++ tailT a) (us ++ (x :: (B ++ [y]))) := by
  obtain ⟨y, hy, h1⟩ := reads_tail h (by omega)
  refine ⟨x, shT p.length y, A.map (shT p.length), hx, by rw [← hy]; rfl, ?_, by simp, ?_⟩
  · rw [List.map_map]; rfl
  · have := hp.cat h1 (by simp; omega)
    simpa using this
theorem formula_bare {A B : List Tok} {f : Fml} (h : RunN .formula A (.ok (f, []))) (hb : B.map bare = A.map bare) : RunN .formula B (.ok (f, [])) := by
  obtain ⟨r, h1, h2⟩ := Run.bare hb.symm h
  cases r with
  | error e => exact h2.elim
  | ok z =>
    obtain ⟨v, l⟩ := z
    obtain ⟨e1, e2⟩ := h2
    have hl : l = [] := List.map_eq_nil_iff.1 e2.symm
    have hv : f = v := e1
    subst hl; subst hv
    exact h1
theorem PRes.tokens {a : List UInt8} {f : Fml} (h : PRes .formula a (.ok f)) : ∃ A, lexM a = .ok A ∧ RunN .formula A (.ok (f, [])) := by
  obtain ⟨ts, l, h1, h2⟩ := h.run
  exact ⟨ts, h1, wholeF_inv h2⟩
theorem PRes.ofRun {a : List UInt8} {A : List Tok} {f : Fml} (h : lexM a = .ok A) (h' : RunN .formula A (.ok (f, []))) : PRes .formula a (.ok f) := by
  unfold PRes
  rw [h]
  exact ⟨.ok (f, []), wholeF h', rfl⟩

/-! ### Operators between -/
structure Bin where
  text : List UInt8
  op : Int
  val : Int
  toks : List Tok
def binL : List Bin := [⟨[45, 62], 7, 0, [⟨3, [45, 62], 0⟩]⟩, ⟨[124], 6, 0, [⟨3, [124], 0⟩]⟩, ⟨[38], 5, 0, [⟨3, [38], 0⟩]⟩, ⟨[85], 9, 0, [⟨1, [85], 0⟩]⟩, ⟨[82], 10, 0, [⟨1, [82], 0⟩]⟩, ⟨[83], 16, 0, [⟨1, [83], 0⟩]⟩, ⟨[84], 17, 1, [⟨1, [84], 0⟩]⟩,
  ⟨[83, 91, 49, 93], 16, 1, [⟨1, [83], 0⟩, ⟨3, [91], 1⟩, ⟨2, [49], 2⟩, ⟨3, [93], 3⟩]⟩, ⟨[84, 91, 48, 93], 17, 0, [⟨1, [84], 0⟩, ⟨3, [91], 1⟩, ⟨2, [48], 2⟩, ⟨3, [93], 3⟩]⟩]
theorem bin_reads : ∀ o ∈ binL, Reads (o.text ++ [40]) (o.toks ++ [⟨3, [40], o.text.length⟩]) ∧ o.text.length ≤ 4 ∧ o.toks.length ≤ 4 := by
  intro o ho
  simp only [binL, List.mem_cons, List.not_mem_nil, or_false] at ho
  rcases ho with rfl | rfl | rfl | rfl | rfl | rfl | rfl | rfl | rfl
  · exact ⟨fun u => .step (a1 := 2) (by simp) (imp_step _) (.step (a1 := 3) (by simp) (sym_at rfl (by simp) (by simp)) (.refl _ _)), by simp, by simp⟩
  · exact ⟨fun u => .step (a1 := 1) (by simp) (sym_at rfl (by simp) (by simp)) (.step (a1 := 2) (by simp) (sym_at rfl (by simp) (by simp)) (.refl _ _)), by simp, by simp⟩
  · exact ⟨fun u => .step (a1 := 1) (by simp) (sym_at rfl (by simp) (by simp)) (.step (a1 := 2) (by simp) (sym_at rfl (by simp) (by simp)) (.refl _ _)), by simp, by simp⟩
  · exact ⟨fun u => .step (a1 := 1) (by simp) rfl (.step (a1 := 2) (by simp) (sym_at rfl (by simp) (by simp)) (.refl _ _)), by simp, by simp⟩
  · exact ⟨fun u => .step (a1 := 1) (by simp) rfl (.step (a1 := 2) (by simp) (sym_at rfl (by simp) (by simp)) (.refl _ _)), by simp, by simp⟩
  · exact ⟨fun u => .step (a1 := 1) (by simp) rfl (.step (a1 := 2) (by simp) (sym_at rfl (by simp) (by simp)) (.refl _ _)), by simp, by simp⟩
  · exact ⟨fun u => .step (a1 := 1) (by simp) rfl (.step (a1 := 2) (by simp) (sym_at rfl (by simp) (by simp)) (.refl _ _)), by simp, by simp⟩
  · exact ⟨fun u => .step (a1 := 1) (by simp) rfl (.step (a1 := 2) (by simp) (sym_at rfl (by simp) (by simp)) (.step (a1 := 3) (by simp) rfl (.step (a1 := 4) (by simp) (sym_at rfl (by simp) (by simp)) (.step (a1 := 5) (by simp) (sym_at rfl (by simp) (by simp)) (.refl _ _))))), by simp, by simp⟩
  · exact ⟨fun u => .step (a1 := 1) (by simp) rfl (.step (a1 := 2) (by simp) (sym_at rfl (by simp) (by simp)) (.step (a1 := 3) (by simp) rfl (.step (a1 := 4) (by simp) (sym_at rfl (by simp) (by simp)) (.step (a1 := 5) (by simp) (sym_at rfl (by simp) (by simp)) (.refl _ _))))), by simp, by simp⟩

/-! ### Operators ahead -/
structure Una where
  text : List UInt8
  op : Int
  val : Int
  bound : Int
  toks : List Tok
def unaL : List Una := [⟨[33], 4, 0, 0, [⟨3, [33], 0⟩]⟩, ⟨[88], 8, 0, 0, [⟨1, [88], 0⟩]⟩, ⟨[70], 11, 0, 0, [⟨1, [70], 0⟩]⟩, ⟨[71], 12, 0, 0, [⟨1, [71], 0⟩]⟩, ⟨[70, 91, 55, 93], 13, 0, 7, [⟨1, [70], 0⟩, ⟨3, [91], 1⟩, ⟨2, [55], 2⟩, ⟨3, [93], 3⟩]⟩, ⟨[71, 91, 48, 93], 14, 0, 0, [⟨1, [71], 0⟩, ⟨3, [91], 1⟩, ⟨2, [48], 2⟩, ⟨3, [93], 3⟩]⟩, ⟨[89], 15, 0, 0, [⟨1, [89], 0⟩]⟩, ⟨[90], 15, 1, 0, [⟨1, [90], 0⟩]⟩, ⟨[79], 18, 0, 0, [⟨1, [79], 0⟩]⟩, ⟨[72], 19, 0, 0, [⟨1, [72], 0⟩]⟩]
theorem una_reads : ∀ o ∈ unaL, Reads (o.text ++ [40]) (o.toks ++ [⟨3, [40], o.text.length⟩]) ∧ o.text.length ≤ 4 ∧ o.toks.length ≤ 4 := by
  intro o ho
  simp only [unaL, List.mem_cons, List.not_mem_nil, or_false] at ho
  rcases ho with rfl | rfl | rfl | rfl | rfl | rfl | rfl | rfl | rfl | rfl
  · exact ⟨fun u => .step (a1 := 1) (by simp) (not_step _) (.step (a1 := 2) (by simp) (sym_at rfl (by simp) (by simp)) (.refl _ _)), by simp, by simp⟩
  · exact ⟨fun u => .step (a1 := 1) (by simp) rfl (.step (a1 := 2) (by simp) (sym_at rfl (by simp) (by simp)) (.refl _ _)), by simp, by simp⟩
  · exact ⟨fun u => .step (a1 := 1) (by simp) rfl (.step (a1 := 2) (by simp) (sym_at rfl (by simp) (by simp)) (.refl _ _)), by simp, by simp⟩
  · exact ⟨fun u => .step (a1 := 1) (by simp) rfl (.step (a1 := 2) (by simp) (sym_at rfl (by simp) (by simp)) (.refl _ _)), by simp, by simp⟩
  · exact ⟨fun u => .step (a1 := 1) (by simp) rfl (.step (a1 := 2) (by simp) (sym_at rfl (by simp) (by simp)) (.step (a1 := 3) (by simp) rfl (.step (a1 := 4) (by simp) (sym_at rfl (by simp) (by simp)) (.step (a1 := 5) (by simp) (sym_at rfl (by simp) (by simp)) (.refl _ _))))), by simp, by simp⟩
  · exact ⟨fun u => .step (a1 := 1) (by simp) rfl (.step (a1 := 2) (by simp) (sym_at rfl (by simp) (by simp)) (.step (a1 := 3) (by simp) rfl (.step (a1 := 4) (by simp) (sym_at rfl (by simp) (by simp)) (.step (a1 := 5) (by simp) (sym_at rfl (by simp) (by simp)) (.refl _ _))))), by simp, by simp⟩
  · exact ⟨fun u => .step (a1 := 1) (by simp) rfl (.step (a1 := 2) (by simp) (sym_at rfl (by simp) (by simp)) (.refl _ _)), by simp, by simp⟩
  · exact ⟨fun u => .step (a1 := 1) (by simp) rfl (.step (a1 := 2) (by simp) (sym_at rfl (by simp) (by simp)) (.refl _ _)), by simp, by simp⟩
  · exact ⟨fun u => .step (a1 := 1) (by simp) rfl (.step (a1 := 2) (by simp) (sym_at rfl (by simp) (by simp)) (.refl _ _)), by simp, by simp⟩
  · exact ⟨fun u => .step (a1 := 1) (by simp) rfl (.step (a1 := 2) (by simp) (sym_at rfl (by simp) (by simp)) (.refl _ _)), by simp, by simp⟩

/-! ### Runs over operators -/
theorem idx0 {o : Opr} (r : List Tok) (h : o.indexed = 0) : Run (indexG o) r (.ok (none, r)) := by
  unfold indexG; rw [if_pos h]; exact Run.ret _ _
theorem idxNo {o : Opr} {r : List Tok} (h : seesB [91] (r.head?.map bare) = false) : Run (indexG o) r (.ok (none, r)) := by
  unfold indexG
  split
  · exact Run.ret _ _
  · exact run_no h (Run.ret _ _)
theorem idxYes {o : Opr} {x y z : Tok} {r : List Tok} (h : o.indexed ≠ 0) (hx : bare x = (3, [91])) (hy : y.kind = 2) (hz : bare z = (3, [93])) : Run (indexG o) (x :: y :: z :: r) (.ok (some (numOf y.text), r)) := by
  unfold indexG
  rw [if_neg h]
  exact run_yes (by rw [hx]; decide) (run_number hy (run_expect (by rw [hz]; decide) (Run.ret _ _)))
theorem until_bin {l r r2 : List Tok} {t1 : Tok} {o : Opr} {n : Option Int} {f g : Fml} (h1 : RunN .unary l (.ok (f, t1 :: r))) (ht : infixT.lookup t1.text = some o) (hi : Run (indexG o) r (.ok (n, r2))) (h2 : RunN .untilN r2 (.ok (g, []))) :
    RunN .untilN l (.ok (⟨o.op, [], n.getD o.val, 0, [f, g]⟩, [])) :=
  Run.call h1 (run_take ht (hi.bind (Run.call h2 (Run.ret _ _))))
theorem unary_pre {r r2 r3 : List Tok} {t1 : Tok} {o : Opr} {n : Option Int} {g : Fml} (ht : prefixT.lookup t1.text = some o) (hi : Run (indexG o) r (.ok (n, r2))) (h2 : RunN .unary r2 (.ok (g, r3))) :
    RunN .unary (t1 :: r) (.ok (match n with | some n => ⟨o.indexed, [], o.val, n, [g]⟩ | none => ⟨o.op, [], o.val, 0, [g]⟩, r3)) := by
  refine run_take ht (hi.bind (Run.call h2 ?_))
  cases n <;> exact Run.ret _ _
theorem or_two {l r : List Tok} {t1 : Tok} {f g : Fml} (h1 : RunN .andN l (.ok (f, t1 :: r))) (ht : seesB [124] (some (bare t1)) = true) (h2 : RunN .andN r (.ok (g, []))) : RunN .orN l (.ok (⟨6, [], 0, 0, [f, g]⟩, [])) :=
  Run.call h1 (Run.call (show RunN .orL (t1 :: r) (.ok ([g], [])) from run_yes ht (Run.call h2 (Run.call (show RunN .orL [] (.ok ([], [])) from run_no rfl (Run.ret _ _)) (Run.ret _ _)))) (Run.ret _ _))
theorem and_two {l r : List Tok} {t1 : Tok} {f g : Fml} (h1 : RunN .untilN l (.ok (f, t1 :: r))) (ht : seesB [38] (some (bare t1)) = true) (h2 : RunN .untilN r (.ok (g, []))) : RunN .andN l (.ok (⟨5, [], 0, 0, [f, g]⟩, [])) :=
  Run.call h1 (Run.call (show RunN .andL (t1 :: r) (.ok ([g], [])) from run_yes ht (Run.call h2 (Run.call (show RunN .andL [] (.ok ([], [])) from run_no rfl (Run.ret _ _)) (Run.ret _ _)))) (Run.ret _ _))
theorem imp_two {l r : List Tok} {t1 : Tok} {f g : Fml} (h1 : RunN .orN l (.ok (f, t1 :: r))) (ht : seesB [45, 62] (some (bare t1)) = true) (h2 : RunN .formula r (.ok (g, []))) : RunN .formula l (.ok (⟨7, [], 0, 0, [f, g]⟩, [])) :=
  Run.call h1 (run_yes ht (Run.call h2 (Run.ret _ _)))
end Go.Proofs.YtmnhnbpnjepkbaaGreatDoor

namespace Go.Proofs.YtmnhnbpnjepkbaaGreatDoor
open Go.RowKit
set_option linter.unusedVariables false

/-! ### Stoppers -/
theorem stop_semi : StopF (3, [59]) := ⟨by decide, by decide, by decide, by decide, by decide, by decide, by decide, by decide, by decide, by decide, by decide⟩
theorem stop_part : StopF (1, [112, 97, 114, 116]) := ⟨by decide, by decide, by decide, by decide, by decide, by decide, by decide, by decide, by decide, by decide, by decide⟩
def specS : NT → Prop
  | .signal => True
  | .sigs => True
  | .req => True
  | .line => True
  | .lines => True
  | .part => True
  | nt => fmlS nt
theorem spec_fml : ∀ nt, fmlS nt → specS nt := fun nt h => by cases nt <;> first | trivial | exact h
theorem good_sees2 {S : NT → Prop} {x : BT} {α : Type} {s t : List UInt8} {q : Bool → G α} (hs : seesB s (some x) = false) (ht : seesB t (some x) = false) (h : ∀ c b, Good S x b (q c)) (b : Bool) : Good S x b ((sees2 s t).bind q) := by
  refine ⟨fun y => h _ true, .inr (.inr ⟨?_, h _ false⟩)⟩
  show q (seesB s none || seesB t none) = q (seesB s (some x) || seesB t (some x))
  rw [hs, ht]; rfl
def tailReq (k : Int) : G Rqm := nameG.bind fun s => (expect [58]).bind fun _ => .call .formula fun f => .ret ⟨[], s, k, f⟩
def tailSig (i : Bool) : G Sgn := nameG.bind fun s => ((accepts [58]).bind fun b => if b then numberG else .ret 2).bind fun n => (expect [59]).bind fun _ => .ret ⟨s, i, n⟩
theorem good_spec : ∀ nt, specS nt → Good specS (1, [112, 97, 114, 116]) false (body nt)
  | .signal, _ => by
    have ht : ∀ i b, Good specS (1, [112, 97, 114, 116]) b (tailSig i) := fun i b => by
      refine good_name (fun s => ?_) b
      rw [G.bind_assoc]
      refine good_accepts (by decide) ?_ (fun b => ?_) false
      · refine good_number (fun n => ?_) false
        refine good_expect ?_ false
        exact good_ret
      · show Good specS _ b ((expect [59]).bind _)
        refine good_expect ?_ b
        exact good_ret
    refine good_accepts (by decide) ?_ (fun b => ?_) false
    · exact ht true false
    · exact good_expect (ht false false) b
  | .sigs, _ => by
    refine good_sees2 (by decide) (by decide) (fun c b => ?_) false
    cases c with
    | true => exact good_call trivial fun x => good_call trivial fun l => good_ret
    | false => exact good_ret
  | .req, _ => by
    have ht : ∀ k b, Good specS (1, [112, 97, 114, 116]) b (tailReq k) := fun k b => by
      refine good_name (fun s => ?_) b
      refine good_expect ?_ false
      exact good_call trivial fun f => good_ret
    refine good_accepts (by decide) ?_ (fun b => ?_) false
    · exact ht 1 false
    · show Good specS _ b (((expect [103, 117, 97, 114, 97, 110, 116, 101, 101]).bind fun _ => .ret 2).bind tailReq)
      rw [G.bind_assoc]
      exact good_expect (ht 2 false) b
  | .line, _ => good_call trivial fun r => by
    refine good_expect ?_ false
    exact good_ret
  | .lines, _ => by
    refine good_sees2 (by decide) (by decide) (fun c b => ?_) false
    cases c with
    | true => exact good_call trivial fun x => good_call trivial fun l => good_ret
    | false => exact good_ret
  | .part, _ => by
    refine good_expect ?_ false
    refine good_name (fun s => ?_) false
    refine good_expect ?_ false
    refine good_call trivial fun l => ?_
    refine good_expect ?_ false
    exact good_ret
  | .formula, h => good_formula spec_fml stop_part .formula h
  | .orN, h => good_formula spec_fml stop_part .orN h
  | .orL, h => good_formula spec_fml stop_part .orL h
  | .andN, h => good_formula spec_fml stop_part .andN h
  | .andL, h => good_formula spec_fml stop_part .andL h
  | .untilN, h => good_formula spec_fml stop_part .untilN h
  | .unary, h => good_formula spec_fml stop_part .unary h
  | .primary, h => good_formula spec_fml stop_part .primary h
  | .parts, h => (show False from h).elim
  | .spec, h => (show False from h).elim
  | .edit, h => (show False from h).elim

/-! ### A further part -/
theorem sees2_run {s t : List UInt8} (l : List Tok) : Run (sees2 s t) l (.ok (seesB s (l.head?.map bare) || seesB t (l.head?.map bare), l)) := Run.look (Run.ret _ _)
theorem on_part {nt : NT} (hs : specS nt) {l m : List Tok} {v : nt.T} {z : Tok} (T : List Tok) (hz : bare z = (1, [112, 97, 114, 116])) (h : RunN nt l (.ok (v, m))) : RunN nt (l ++ z :: T) (.ok (v, m ++ z :: T)) := by
  cases m with
  | nil => exact RunN.stop (S := specS) (by rw [hz]; exact good_spec) hs T h
  | cons y m => exact RunN.left (z :: T) h
theorem parts_app {z : Tok} {T : List Tok} {qs : List (List Rqm)} (hz : bare z = (1, [112, 97, 114, 116])) (hq : RunN .parts (z :: T) (.ok (qs, []))) : ∀ (n : Nat) (m : List Tok) (ps : List (List Rqm)), m.length ≤ n → RunN .parts m (.ok (ps, [])) → RunN .parts (m ++ z :: T) (.ok (ps ++ qs, [])) := by
  intro n
  induction n with
  | zero =>
    intro m ps hm h
    obtain rfl := List.length_eq_zero_iff.1 (Nat.le_zero.1 hm)
    have h0 : RunN .parts [] (.ok ([], [])) := Run.bind (sees2_run []) (Run.ret _ _)
    cases h.det h0
    exact hq
  | succ n ih =>
    intro m ps hm h
    obtain ⟨b, l1, h1, h2⟩ := bind_ok h
    cases h1.det (sees2_run m)
    cases hb : (seesB [112, 97, 114, 116] (m.head?.map bare) || seesB [112, 97, 114, 116] (m.head?.map bare)) with
    | false =>
      rw [hb] at h2
      have h2 : Run (.ret []) m (.ok (ps, [])) := h2
      cases h2.det (Run.ret _ _)
      exact hq
    | true =>
      rw [hb] at h2
      obtain ⟨v, l2, h3, h4⟩ := call_ok (show Run (.call .part fun l => .call .parts fun m => .ret (l :: m)) m (.ok (ps, [])) from h2)
      obtain ⟨ps', l3, h5, h6⟩ := call_ok h4
      cases h6.det (Run.ret _ _)
      have hl := part_less h3
      cases m with
      | nil => simp [seesB] at hb
      | cons y m =>
        refine whileP_parts.more (t := y :: m ++ z :: T) (t2 := l2 ++ z :: T) ?_ (on_part (nt := .part) trivial T hz h3) (ih l2 ps' (by omega) h5)
        have := sees2_run (s := [112, 97, 114, 116]) (t := [112, 97, 114, 116]) (y :: m ++ z :: T)
        rw [show (y :: m ++ z :: T).head? = (y :: m).head? from rfl, hb] at this
        exact this
theorem spec_app {A : List Tok} {s : Spc} {z : Tok} {T : List Tok} {qs : List (List Rqm)} (hz : bare z = (1, [112, 97, 114, 116])) (hq : RunN .parts (z :: T) (.ok (qs, []))) (h : RunN .spec A (.ok (s, []))) : RunN .spec (A ++ z :: T) (.ok (⟨s.sigs, s.reqs ++ qs.flatten⟩, [])) := by
  obtain ⟨x, m, h1, h2⟩ := call_ok h
  obtain ⟨ps, m2, h3, h4⟩ := call_ok h2
  cases h4.det (Run.ret _ _)
  have := parts_app hz hq m.length m ps (Nat.le_refl _) h3
  refine Run.call (on_part (nt := .sigs) trivial T hz h1) (Run.call this ?_)
  have e : (ps ++ qs).flatten = ps.flatten ++ qs.flatten := by simp
  rw [← e]
  exact Run.ret _ _
theorem run_req {g nm cl : Tok} {F r : List Tok} {name : List UInt8} {f : Fml} (hg : bare g = (1, [103, 117, 97, 114, 97, 110, 116, 101, 101])) (hn : bare nm = (1, name)) (hv : nameB name = true) (hc : bare cl = (3, [58])) (hF : RunN .formula (F ++ r) (.ok (f, r))) : RunN .req (g :: nm :: cl :: (F ++ r)) (.ok (⟨[], name, 2, f⟩, r)) := by
  have hk : nm.kind = 1 := congrArg Prod.fst hn
  have ht : nm.text = name := congrArg Prod.snd hn
  subst ht
  refine run_no (by show seesB _ (some (bare g)) = false; rw [hg]; decide) ?_
  show Run (((expect [103, 117, 97, 114, 97, 110, 116, 101, 101]).bind fun _ => .ret 2).bind tailReq) _ _
  rw [G.bind_assoc]
  refine run_expect (by rw [hg]; decide) ?_
  show Run (tailReq 2) _ _
  refine run_name hk hv (run_expect (by rw [hc]; decide) ?_)
  exact Run.call hF (Run.ret _ _)
def tk (b : BT) : Tok := ⟨b.1, b.2, 0⟩
/-- the tokens of the requirement -/
def reqTk (name : List UInt8) : List Tok := [tk (1, [103, 117, 97, 114, 97, 110, 116, 101, 101]), tk (1, name), tk (3, [58])]
theorem run_partq (r : List Tok) : RunN .part (tk (1, [112, 97, 114, 116]) :: tk (1, [113]) :: tk (3, [123]) :: tk (3, [125]) :: r) (.ok ([], r)) := by
  refine run_expect (by decide) (run_name rfl (by decide) (run_expect (by decide) ?_))
  have h : RunN .lines (tk (3, [125]) :: r) (.ok ([], tk (3, [125]) :: r)) := Run.bind (sees2_run _) (Run.ret _ _)
  exact Run.call h (run_expect (by decide) (Run.ret _ _))
theorem run_partp {name : List UInt8} {F : List Tok} {f : Fml} (hv : nameB name = true) (hF : RunN .formula F (.ok (f, []))) :
    RunN .part (tk (1, [112, 97, 114, 116]) :: tk (1, [112]) :: tk (3, [123]) :: (reqTk name ++ (F ++ [tk (3, [59]), tk (3, [125])]))) (.ok ([⟨[112], name, 2, f⟩], [])) := by
  refine run_expect (by decide) (run_name rfl (by decide) (run_expect (by decide) ?_))
  have hF' : RunN .formula (F ++ [tk (3, [59]), tk (3, [125])]) (.ok (f, [tk (3, [59]), tk (3, [125])])) := RunN.stop (S := fmlS) (x := tk (3, [59])) (nt := .formula) (good_formula (fun _ h => h) stop_semi) trivial _ hF
  have h1 : RunN .req (reqTk name ++ (F ++ [tk (3, [59]), tk (3, [125])])) (.ok (⟨[], name, 2, f⟩, [tk (3, [59]), tk (3, [125])])) := run_req rfl rfl hv rfl hF'
  have h2 : RunN .line (reqTk name ++ (F ++ [tk (3, [59]), tk (3, [125])])) (.ok (⟨[], name, 2, f⟩, [tk (3, [125])])) := Run.call h1 (run_expect (by decide) (Run.ret _ _))
  have h3 : RunN .lines [tk (3, [125])] (.ok ([], [tk (3, [125])])) := Run.bind (sees2_run _) (Run.ret _ _)
  have h4 : RunN .lines (reqTk name ++ (F ++ [tk (3, [59]), tk (3, [125])])) (.ok ([⟨[], name, 2, f⟩], [tk (3, [125])])) := whileP_lines.more (sees2_run _) h2 h3
  exact Run.call h4 (run_expect (by decide) (Run.ret _ _))
/-- the tokens of the further parts -/
def partTk (name : List UInt8) (F : List Tok) : List Tok := tk (1, [112, 97, 114, 116]) :: tk (1, [113]) :: tk (3, [123]) :: tk (3, [125]) :: tk (1, [112, 97, 114, 116]) :: tk (1, [112]) :: tk (3, [123]) :: (reqTk name ++ (F ++ [tk (3, [59]), tk (3, [125])]))
theorem run_parts {name : List UInt8} {F : List Tok} {f : Fml} (hv : nameB name = true) (hF : RunN .formula F (.ok (f, []))) : RunN .parts (partTk name F) (.ok ([[], [⟨[112], name, 2, f⟩]], [])) :=
  whileP_parts.more (sees2_run _) (run_partq _) (whileP_parts.more (sees2_run _) (run_partp hv hF) (whileP_parts.done (sees2_run _)))

/-! ### What is read -/
def ReadsB (s : List UInt8) (bs : List BT) : Prop := ∃ us, us.map bare = bs ∧ Reads s us
theorem ReadsB.cat {s s' : List UInt8} {bs bs' : List BT} (h : ReadsB s bs) (h' : ReadsB s' bs') (hc : bs.length + bs'.length ≤ 2000) : ReadsB (s ++ s') (bs ++ bs') := by
  obtain ⟨us, rfl, h⟩ := h
  obtain ⟨us', rfl, h'⟩ := h'
  refine ⟨_, ?_, h.cat h' (by simpa using hc)⟩
  rw [List.map_append, List.map_map]; rfl
theorem ReadsB.lex {s : List UInt8} {bs : List BT} (h : ReadsB s bs) (hl : s.length ≤ 6000) : ∃ us, us.map bare = bs ∧ lexM s = .ok us := by
  obtain ⟨us, e, h⟩ := h
  exact ⟨us, e, h.lex hl⟩
theorem kind_small : ∀ c : UInt8, isSmall c = true → kindB c = some 2 := by
  intro c h
  have : c.toNat ∈ (List.range 26).map (· + 97) := by simp [isSmall] at h; simp; exact ⟨c.toNat - 97, by omega, by omega⟩
  have e : c = UInt8.ofNat c.toNat := by simp
  rw [e]
  revert this
  generalize c.toNat = n
  intro hn
  simp only [List.range, List.range.loop, List.map_cons, List.map_nil, List.mem_cons, List.not_mem_nil, or_false] at hn
  rcases hn with rfl | rfl | rfl | rfl | rfl | rfl | rfl | rfl | rfl | rfl | rfl | rfl | rfl | rfl | rfl | rfl | rfl | rfl | rfl | rfl | rfl | rfl | rfl | rfl | rfl | rfl <;> rfl
theorem takeWhile_app {p : UInt8 → Bool} {u : List UInt8} (hu : u.head?.all (fun c => !p c) = true) : ∀ s : List UInt8, s.all p = true → (s ++ u).takeWhile p = s
  | [], _ => by
    cases u with
    | nil => rfl
    | cons c u => simp at hu; simp [hu]
  | c :: s, h => by
    simp only [List.all_cons, Bool.and_eq_true] at h
    rw [List.cons_append, List.takeWhile_cons, if_pos h.1, takeWhile_app hu s h.2]
theorem name_step {name u : List UInt8} (hn : nameB name = true) (hu : u.head?.all (fun c => !inName c) = true) : stepM (name ++ u) 0 [] = .ok (name.length, [⟨1, name, 0⟩]) := by
  simp only [nameB, Bool.and_eq_true, decide_eq_true_eq] at hn
  obtain ⟨⟨⟨⟨h1, h2⟩, h3⟩, h4⟩, _⟩ := hn
  cases name with
  | nil => simp at h1
  | cons c s =>
    have h4 : s.all inName = true := by
      simp only [List.all_cons, Bool.and_eq_true] at h4
      exact h4.2
    have e : whileB inName (c :: s ++ u) (0 + 1) = s.length + 1 := by
      show 0 + 1 + ((s ++ u).takeWhile inName).length = _
      rw [takeWhile_app hu s h4]; omega
    unfold stepM
    rw [show (c :: s ++ u).getD 0 0 = c from rfl, kind_small c h3]
    show nameM _ 0 [] = _
    unfold nameM
    simp only [List.length_cons] at h2
    rw [e, if_neg (by omega)]
    unfold addM
    rw [if_neg (by simp)]
    simp
theorem name_reads {name : List UInt8} (hn : nameB name = true) : ReadsB (name ++ [58]) [(1, name), (3, [58])] := by
  have hp : 1 ≤ name.length := by
    simp only [nameB, Bool.and_eq_true, decide_eq_true_eq] at hn
    exact hn.1.1.1.1
  refine ⟨[⟨1, name, 0⟩, ⟨3, [58], name.length⟩], rfl, fun u => ?_⟩
  rw [List.append_assoc, List.length_append]
  refine .step (a1 := name.length) (by simp; omega) (name_step hn ?_) ?_
  · rfl
  · refine .step (a1 := name.length + 1) (by simp) (sym_at (u := u) (c := 58) ?_ (by simp) (by simp)) (.refl _ _)
    rw [List.drop_append_of_le_length (Nat.le_refl _), List.drop_length]; rfl
theorem line_reads {a : List UInt8} {A : List Tok} (h : lexM a = .ok A) (hc : A.length ≤ 2000) : ReadsB (a ++ [10]) (A.map bare) := ⟨A, rfl, reads_line h hc⟩
theorem rb_parts : ReadsB [112, 97, 114, 116, 32, 113, 32, 123, 32, 125, 32, 112, 97, 114, 116, 32, 112, 32, 123, 32] [(1, [112, 97, 114, 116]), (1, [113]), (3, [123]), (3, [125]), (1, [112, 97, 114, 116]), (1, [112]), (3, [123])] :=
  ⟨[⟨1, [112, 97, 114, 116], 0⟩, ⟨1, [113], 5⟩, ⟨3, [123], 7⟩, ⟨3, [125], 9⟩, ⟨1, [112, 97, 114, 116], 11⟩, ⟨1, [112], 16⟩, ⟨3, [123], 18⟩], rfl, fun u => .step (a1 := 4) (by simp) rfl (.step (a1 := 5) (by simp) rfl (.step (a1 := 6) (by simp) rfl (.step (a1 := 7) (by simp) rfl (.step (a1 := 8) (by simp) (sym_at rfl (by simp) (by simp)) (.step (a1 := 9) (by simp) rfl (.step (a1 := 10) (by simp) (sym_at rfl (by simp) (by simp)) (.step (a1 := 11) (by simp) rfl (.step (a1 := 15) (by simp) rfl (.step (a1 := 16) (by simp) rfl (.step (a1 := 17) (by simp) rfl (.step (a1 := 18) (by simp) rfl (.step (a1 := 19) (by simp) (sym_at rfl (by simp) (by simp)) (.step (a1 := 20) (by simp) rfl (.refl _ _)))))))))))))) ⟩
theorem rb_guar : ReadsB [103, 117, 97, 114, 97, 110, 116, 101, 101, 32] [(1, [103, 117, 97, 114, 97, 110, 116, 101, 101])] := ⟨[⟨1, [103, 117, 97, 114, 97, 110, 116, 101, 101], 0⟩], rfl, fun u => .step (a1 := 9) (by simp) rfl (.step (a1 := 10) (by simp) rfl (.refl _ _))⟩
theorem rb_blank : ReadsB [32] [] := ⟨[], rfl, fun u => .step (a1 := 1) (by simp) rfl (.refl _ _)⟩
theorem rb_end : ReadsB [59, 32, 125] [(3, [59]), (3, [125])] := ⟨[⟨3, [59], 0⟩, ⟨3, [125], 2⟩], rfl, fun u => .step (a1 := 1) (by simp) (sym_at rfl (by simp) (by simp)) (.step (a1 := 2) (by simp) rfl (.step (a1 := 3) (by simp) (sym_at rfl (by simp) (by simp)) (.refl _ _)))⟩
theorem rb_add : ReadsB [97, 100, 100, 32, 112, 32] [(1, [97, 100, 100]), (1, [112])] := ⟨[⟨1, [97, 100, 100], 0⟩, ⟨1, [112], 4⟩], rfl, fun u => .step (a1 := 3) (by simp) rfl (.step (a1 := 4) (by simp) rfl (.step (a1 := 5) (by simp) rfl (.step (a1 := 6) (by simp) rfl (.refl _ _))))⟩
theorem rb_replace : ReadsB [114, 101, 112, 108, 97, 99, 101, 32, 112, 32] [(1, [114, 101, 112, 108, 97, 99, 101]), (1, [112])] := ⟨[⟨1, [114, 101, 112, 108, 97, 99, 101], 0⟩, ⟨1, [112], 8⟩], rfl, fun u => .step (a1 := 7) (by simp) rfl (.step (a1 := 8) (by simp) rfl (.step (a1 := 9) (by simp) rfl (.step (a1 := 10) (by simp) rfl (.refl _ _))))⟩
theorem rb_drop : Reads [100, 114, 111, 112, 32] [⟨1, [100, 114, 111, 112], 0⟩] := fun u => .step (a1 := 4) (by simp) rfl (.step (a1 := 5) (by simp) rfl (.refl _ _))
/-- the text of the requirement -/
def reqT (name a : List UInt8) : List UInt8 := [103, 117, 97, 114, 97, 110, 116, 101, 101, 32] ++ (name ++ ([58, 32] ++ (a ++ [10])))
def specT (t name a : List UInt8) : List UInt8 := t ++ ((10 :: [112, 97, 114, 116, 32, 113, 32, 123, 32, 125, 32, 112, 97, 114, 116, 32, 112, 32, 123, 32]) ++ (reqT name a ++ [59, 32, 125]))
theorem reqT_len (name a : List UInt8) : (reqT name a).length = name.length + a.length + 13 := by simp [reqT]; omega
theorem specT_len (t name a : List UInt8) : (specT t name a).length = t.length + name.length + a.length + 37 := by simp [specT, reqT_len]; omega
theorem req_reads {name a : List UInt8} {A : List Tok} (hn : nameB name = true) (h : lexM a = .ok A) (hc : A.length + 3 ≤ 2000) : ReadsB (reqT name a) ((reqTk name ++ A).map bare) := by
  have := rb_guar.cat ((name_reads hn).cat (rb_blank.cat (line_reads h (by omega)) (by simp; omega)) (by simp; omega)) (by simp; omega)
  simp only [List.append_assoc, List.cons_append, List.nil_append] at this
  simpa [reqT, reqTk, tk, bare] using this
theorem spec_reads {t name a : List UInt8} {T A : List Tok} (hn : nameB name = true) (ht : lexM t = .ok T) (h : lexM a = .ok A) (hc : T.length + A.length + 20 ≤ 2000) : ReadsB (specT t name a) ((T ++ partTk name A).map bare) := by
  have := (line_reads ht (by omega)).cat (rb_parts.cat ((req_reads hn h (by omega)).cat rb_end (by simp [reqTk]; omega)) (by simp [reqTk]; omega)) (by simp [reqTk]; omega)
  simp only [List.append_assoc, List.cons_append, List.nil_append] at this
  simpa [specT, partTk, reqTk, tk, bare] using this

/-! ### The laws -/
theorem wholeN {nt : NT} {l : List Tok} {v : nt.T} (h : RunN nt l (.ok (v, []))) : Run (whole nt) l (.ok (v, [])) := Run.call h (Run.look (Run.ret _ _))
theorem wholeN_inv {nt : NT} {l r : List Tok} {v : nt.T} (h : Run (whole nt) l (.ok (v, r))) : RunN nt l (.ok (v, [])) := by
  rcases Run.call_inv h with ⟨u, m, h1, h2⟩ | ⟨e, _, h2⟩
  · cases m with
    | nil => cases h2.det (show Run (.look _) [] (.ok (u, [])) from Run.look (Run.ret _ _)); exact h1
    | cons x m => cases h2.det (show Run (.look _) (x :: m) (.error (x :: m)) from Run.look (Run.fail _))
  · cases h2
theorem PRes.tokensN {nt : NT} {a : List UInt8} {v : nt.T} (h : PRes nt a (.ok v)) : ∃ A, lexM a = .ok A ∧ RunN nt A (.ok (v, [])) := by
  obtain ⟨ts, l, h1, h2⟩ := h.run
  exact ⟨ts, h1, wholeN_inv h2⟩
theorem run_bareN {nt : NT} {A B : List Tok} {v : nt.T} (h : RunN nt A (.ok (v, []))) (hb : B.map bare = A.map bare) : RunN nt B (.ok (v, [])) := by
  obtain ⟨r, h1, h2⟩ := Run.bare hb.symm h
  cases r with
  | error e => exact h2.elim
  | ok z =>
    obtain ⟨u, l⟩ := z
    obtain ⟨e1, e2⟩ := h2
    have hl : l = [] := List.map_eq_nil_iff.1 e2.symm
    have hv : v = u := e1
    subst hl; subst hv
    exact h1
theorem PRes.ofB {nt : NT} {a : List UInt8} {B : List Tok} {v : nt.T} (h : ReadsB a (B.map bare)) (hl : a.length ≤ 6000) (h' : RunN nt B (.ok (v, []))) : PRes nt a (.ok v) := by
  obtain ⟨us, e, hx⟩ := h.lex hl
  unfold PRes
  rw [hx]
  exact ⟨.ok (v, []), wholeN (run_bareN h' e), rfl⟩
theorem name_len {name : List UInt8} (hn : nameB name = true) : name.length ≤ 12 := by
  simp only [nameB, Bool.and_eq_true, decide_eq_true_eq] at hn
  exact hn.1.1.1.2
section
variable {t name a : List UInt8} {T A : List Tok} {s : Spc} {f : Fml} (hn : nameB name = true) (ht : lexM t = .ok T) (rT : RunN .spec T (.ok (s, []))) (h : lexM a = .ok A) (rA : RunN .formula A (.ok (f, [])))
  (hl : t.length ≤ 2900) (hl' : a.length ≤ 2900) (hc : T.length ≤ 900) (hc' : A.length ≤ 900)
include hn h rA hl' hc'
include ht rT hl hc in
theorem spec_law : PRes .spec (specT t name a) (.ok ⟨s.sigs, s.reqs ++ [⟨[112], name, 2, f⟩]⟩) := by
  have := name_len hn
  refine PRes.ofB (spec_reads hn ht h (by omega)) (by rw [specT_len]; omega) ?_
  exact spec_app rfl (run_parts hn rA) rT
theorem add_law : PRes .edit ([97, 100, 100, 32, 112, 32] ++ reqT name a) (.ok ⟨1, ⟨[112], name, 2, f⟩⟩) := by
  have := name_len hn
  have hr := rb_add.cat (req_reads hn h (by omega)) (by simp [reqTk]; omega)
  refine PRes.ofB (B := tk (1, [97, 100, 100]) :: tk (1, [112]) :: (reqTk name ++ A)) (by simpa [tk, bare] using hr) (by simp [reqT_len]; omega) ?_
  refine run_no rfl (run_yes rfl (run_name rfl (by decide) ?_))
  have h0 : RunN .formula (A ++ []) (.ok (f, [])) := by rw [List.append_nil]; exact rA
  have h1 : RunN .req (reqTk name ++ (A ++ [])) (.ok (⟨[], name, 2, f⟩, [])) := run_req rfl rfl hn rfl h0
  rw [List.append_nil] at h1
  exact Run.call h1 (Run.ret _ _)
theorem replace_law : PRes .edit ([114, 101, 112, 108, 97, 99, 101, 32, 112, 32] ++ reqT name a) (.ok ⟨3, ⟨[112], name, 2, f⟩⟩) := by
  have := name_len hn
  have hr := rb_replace.cat (req_reads hn h (by omega)) (by simp [reqTk]; omega)
  refine PRes.ofB (B := tk (1, [114, 101, 112, 108, 97, 99, 101]) :: tk (1, [112]) :: (reqTk name ++ A)) (by simpa [tk, bare] using hr) (by simp [reqT_len]; omega) ?_
  refine run_no rfl (run_no rfl ?_)
  show Run (((expect [114, 101, 112, 108, 97, 99, 101]).bind fun _ => .ret 3).bind _) _ _
  rw [G.bind_assoc]
  refine run_expect rfl (run_name rfl (by decide) ?_)
  have h0 : RunN .formula (A ++ []) (.ok (f, [])) := by rw [List.append_nil]; exact rA
  have h1 : RunN .req (reqTk name ++ (A ++ [])) (.ok (⟨[], name, 2, f⟩, [])) := run_req rfl rfl hn rfl h0
  rw [List.append_nil] at h1
  exact Run.call h1 (Run.ret _ _)
end
theorem drop_law {name : List UInt8} (hn : nameB name = true) : PRes .edit ([100, 114, 111, 112, 32] ++ name) (.ok ⟨2, ⟨[], name, 0, zeroF⟩⟩) := by
  have hl := name_len hn
  have hp : 1 ≤ name.length := by
    simp only [nameB, Bool.and_eq_true, decide_eq_true_eq] at hn
    exact hn.1.1.1.1
  have h2 : Reach1 (name ++ []) 0 [] name.length [⟨1, name, 0⟩] := .step (by simp; omega) (name_step hn rfl) (.refl _ _)
  have h2 := h2.shift [100, 114, 111, 112, 32] [⟨1, [100, 114, 111, 112], 0⟩] (by simp)
  have h3 := (rb_drop (name ++ [])).trans h2
  simp only [List.append_nil] at h3
  have e : ([100, 114, 111, 112, 32] ++ name).length = 5 + name.length := by simp; omega
  have hx : lexM ([100, 114, 111, 112, 32] ++ name) = .ok [⟨1, [100, 114, 111, 112], 0⟩, ⟨1, name, 5⟩] := lexM_reach (by rw [e]; omega) (by rw [e]; simpa [shT] using h3)
  unfold PRes
  rw [hx]
  refine ⟨.ok (⟨2, ⟨[], name, 0, zeroF⟩⟩, []), wholeN ?_, rfl⟩
  exact run_yes (x := ⟨1, [100, 114, 111, 112], 0⟩) rfl (run_name (x := ⟨1, name, 5⟩) rfl hn (Run.ret _ _))
end Go.Proofs.YtmnhnbpnjepkbaaGreatDoor

namespace Go.Proofs.YtmnhnbpnjepkbaaGreatDoor
open Go.RowKit
set_option linter.unusedVariables false

theorem in_ok (w : World) (v : Value) (l : List (List UInt8)) (s : List UInt8) (hT : Sl anyB w v l.length (l.map strV)) : Fn Tryz.prog 44 [v, strV s] w fun v w' => v = .bool (decide (s ∈ l)) ∧ w' = w := by
  obtain ⟨a, c, rfl, hc1, hc2, _, hcc⟩ := hT
  refine fn_of_wc Tryz.func44 rfl Tryz.ntmps44 (Nat.le_of_ble_eq_true rfl) (by kernel_rfl) ?_
  repeat' first | refine nx ?_ | refine C_cond_t rfl ?_ | refine C_cond_f rfl ?_ | refine Q_block_on rfl ?_
  (refine C_region ?_
   <;> (refine M_assign ?_; (first | refine M_bool rfl ?_ | refine W_move ?_))
   <;> refine W_nil ?_)
  repeat' first | refine nx ?_ | refine C_cond_t rfl ?_ | refine C_cond_f rfl ?_ | refine Q_block_on rfl ?_
  (refine C_region ?_
   <;> (refine M_assign ?_; (first | refine M_int rfl ?_ | refine W_move ?_))
   <;> refine W_nil ?_)
  repeat' first | refine nx ?_ | refine C_cond_t rfl ?_ | refine C_cond_f rfl ?_ | refine Q_block_on rfl ?_
  refine C_loop (α := Nat) (fun k => [(0, .slice a l.length c), (1, strV s), (5, .int .i64 (k : Int))]) (fun k W => k ≤ l.length ∧ s ∉ l.take k ∧ W = w) (fun k => l.length - k) 0 ⟨rfl, rfl, rfl, trivial⟩ ⟨by omega, by simp, rfl⟩ ?_
  rintro k w2 f2 ⟨hk, hn, rfl⟩
  repeat' first | refine nx ?_ | refine C_cond_t rfl ?_ | refine C_cond_f rfl ?_ | refine Q_block_on rfl ?_
  by_cases hlt : k < l.length
  · obtain ⟨b, o, rfl, _, hcell⟩ := hcc.resolve_left (by omega)
    obtain ⟨y, hy⟩ : ∃ y, l[k]? = some y := ⟨_, List.getElem?_eq_getElem hlt⟩
    have hyc : w2.cell? ⟨b, o + k, none⟩ = some (strV y) := hcell k _ (by simp [hy])
    have ht1 : l.take (k + 1) = l.take k ++ [y] := by rw [List.take_add_one, hy]; rfl
    (refine C_region ?_
     <;> (first | refine M_int rfl ?_ | refine W_move ?_)
     <;> (first | refine M_slice rfl ?_ | refine W_move ?_)
     <;> refine W_len rfl ?_
     <;> (refine W_lss rfl rfl (fun hc => ?_) (fun hc => ?_) <;> try (exfalso; omega))
     <;> refine W_nil ?_)
    repeat' first | refine nx ?_ | refine C_cond_t rfl ?_ | refine C_cond_f rfl ?_ | refine Q_block_on rfl ?_
    by_cases hys : y = s
    · (refine C_region ?_
       <;> (first | refine M_slice rfl ?_ | refine W_move ?_)
       <;> (first | refine M_int rfl ?_ | refine W_move ?_)
       <;> (first | refine W_idx1 rfl rfl rfl (by omega) ?_ | refine W_idx rfl rfl rfl (by omega) ?_ | refine W_indexAddr rfl rfl (by omega) (by omega) ?_)
       <;> (first | refine W_load rfl (Blk.cell (by assumption) (by rfl)) ?_ | refine W_load rfl (by assumption) ?_)
       <;> (first | refine M_str rfl ?_ | refine W_move ?_)
       <;> refine W_seql rfl rfl (fun hc => ?_) (fun hc => ?_)
       <;> refine W_nil ?_)
      case refine_2 => exact absurd hys (by assumption)
      repeat' first | refine nx ?_ | refine C_cond_t rfl ?_ | refine C_cond_f rfl ?_ | refine Q_block_on rfl ?_
      (refine C_region ?_
       <;> (refine M_assign ?_; (first | refine M_bool rfl ?_ | refine W_move ?_))
       <;> refine W_nil ?_)
      repeat' first | refine nx ?_ | refine C_cond_t rfl ?_ | refine C_cond_f rfl ?_ | refine Q_block_on rfl ?_
      exact fin_ret1 rfl ⟨by rw [decide_eq_true (List.mem_of_getElem? (hys ▸ hy) : s ∈ l)]; rfl, rfl⟩
    · (refine C_region ?_
       <;> (first | refine M_slice rfl ?_ | refine W_move ?_)
       <;> (first | refine M_int rfl ?_ | refine W_move ?_)
       <;> (first | refine W_idx1 rfl rfl rfl (by omega) ?_ | refine W_idx rfl rfl rfl (by omega) ?_ | refine W_indexAddr rfl rfl (by omega) (by omega) ?_)
       <;> (first | refine W_load rfl (Blk.cell (by assumption) (by rfl)) ?_ | refine W_load rfl (by assumption) ?_)
       <;> (first | refine M_str rfl ?_ | refine W_move ?_)
       <;> refine W_seql rfl rfl (fun hc => ?_) (fun hc => ?_)
       <;> refine W_nil ?_)
      case refine_1 => exact absurd (by assumption) hys
      repeat' first | refine nx ?_ | refine C_cond_t rfl ?_ | refine C_cond_f rfl ?_ | refine Q_block_on rfl ?_
      (refine C_region ?_
       <;> (first | refine M_int rfl ?_ | refine W_move ?_)
       <;> refine W_add rfl rfl (by first | exact inR_i64 (by omega) (by omega) | exact inR_u8 (by omega) (by omega) | exact inR_u16 (by omega) (by omega)) ?_
       <;> (refine M_assign ?_; (first | refine M_int rfl ?_ | refine W_move ?_))
       <;> refine W_nil ?_)
      repeat' first | refine nx ?_ | refine C_cond_t rfl ?_ | refine C_cond_f rfl ?_ | refine Q_block_on rfl ?_
      refine ⟨k + 1, ⟨rfl, ⟨rfl, rfl, ?_, trivial⟩, ⟨by omega, by rw [ht1]; simp [hn]; exact fun e => hys e.symm, rfl⟩⟩, by omega⟩
      show Value.int .i64 ((k : Int) + 1) = _
      rw [Int.natCast_add]; rfl
  · obtain rfl : k = l.length := by omega
    (refine C_region ?_
     <;> (first | refine M_int rfl ?_ | refine W_move ?_)
     <;> (first | refine M_slice rfl ?_ | refine W_move ?_)
     <;> refine W_len rfl ?_
     <;> (refine W_lss rfl rfl (fun hc => ?_) (fun hc => ?_) <;> try (exfalso; omega))
     <;> refine W_nil ?_)
    repeat' first | refine nx ?_ | refine C_cond_t rfl ?_ | refine C_cond_f rfl ?_ | refine Q_block_on rfl ?_
    (refine C_region ?_
     <;> (refine M_assign ?_; (first | refine M_bool rfl ?_ | refine W_move ?_))
     <;> refine W_nil ?_)
    repeat' first | refine nx ?_ | refine C_cond_t rfl ?_ | refine C_cond_f rfl ?_ | refine Q_block_on rfl ?_
    rw [List.take_length] at hn
    exact fin_ret1 rfl ⟨by rw [decide_eq_false hn]; rfl, rfl⟩
theorem keywords_ok (w : World) : Fn Tryz.prog 45 [] w fun v w' => Sl anyB w' v keysL.length (keysL.map strV) ∧ Ext w w' := by
  refine fn_of_wc Tryz.func45 rfl Tryz.ntmps45 (Nat.le_of_ble_eq_true rfl) (by kernel_rfl) ?_
  repeat' first | refine nx ?_ | refine C_cond_t rfl ?_ | refine C_cond_f rfl ?_ | refine Q_block_on rfl ?_
  (refine C_region ?_
   <;> (refine M_assign ?_; (first | refine M_slice rfl ?_ | refine W_move ?_))
   <;> refine W_nil ?_)
  repeat' first | refine nx ?_ | refine C_cond_t rfl ?_ | refine C_cond_f rfl ?_ | refine Q_block_on rfl ?_
  refine C_region ?_
  refine W_buildSlice1 (out := keysL.map strV) rfl (by omega) rfl (by kernel_rfl) (fun w1 n1 => ?_)
  ((refine M_assign ?_; (first | refine M_slice rfl ?_ | refine W_move ?_))
   <;> refine W_nil ?_)
  repeat' first | refine nx ?_ | refine C_cond_t rfl ?_ | refine C_cond_f rfl ?_ | refine Q_block_on rfl ?_
  exact fin_ret1 rfl ⟨⟨_, _, rfl, by decide, by decide, (fun h => by cases h), .inr ⟨_, _, rfl, trivial, n1.blk.cells⟩⟩, n1.keep⟩
theorem refName_ok (s : List UInt8) (w : World) : Fn Tryz.prog 24 [strV s] w fun v w' => v = .bool (nameB s) ∧ Ext w w' := by
  refine fn_of_wc Tryz.func24 rfl Tryz.ntmps24 (Nat.le_of_ble_eq_true rfl) (by kernel_rfl) ?_
  repeat' first | refine nx ?_ | refine C_cond_t rfl ?_ | refine C_cond_f rfl ?_ | refine Q_block_on rfl ?_
  (refine C_region ?_
   <;> (refine M_assign ?_; (first | refine M_bool rfl ?_ | refine W_move ?_))
   <;> refine W_nil ?_)
  repeat' first | refine nx ?_ | refine C_cond_t rfl ?_ | refine C_cond_f rfl ?_ | refine Q_block_on rfl ?_
  by_cases h1 : s.length < 1
  · (refine C_region ?_
     <;> (first | refine M_str rfl ?_ | refine W_move ?_)
     <;> refine W_slen rfl ?_
     <;> (refine W_lss rfl rfl (fun hc => ?_) (fun hc => ?_) <;> try (exfalso; omega))
     <;> (first | refine M_bool rfl ?_ | refine W_move ?_)
     <;> (first | refine W_no rfl ?_ | (refine W_yes rfl ?_; (first | refine M_str rfl ?_ | refine W_move ?_)))
     <;> (first | refine W_no rfl ?_ | (refine W_yes rfl ?_; refine W_slen rfl ?_))
     <;> (first | refine W_no rfl ?_ | (refine W_yes rfl ?_; (refine W_gtr rfl rfl (fun hc => ?_) (fun hc => ?_) <;> try (exfalso; omega))))
     <;> ((first | refine M_pick_t rfl ?_ | refine M_pick_f rfl ?_); (first | refine M_bool rfl ?_ | refine W_move ?_))
     <;> (first | refine M_bool rfl ?_ | refine W_move ?_)
     <;> refine W_no rfl ?_
     <;> (first | refine W_no rfl ?_ | (refine W_yes rfl ?_; (first | refine M_str rfl ?_ | refine W_move ?_)))
     <;> refine W_no rfl ?_
     <;> ((first | refine M_pick_t rfl ?_ | refine M_pick_f rfl ?_); (first | refine M_bool rfl ?_ | refine W_move ?_))
     <;> refine W_nil ?_)
    repeat' first | refine nx ?_ | refine C_cond_t rfl ?_ | refine C_cond_f rfl ?_ | refine Q_block_on rfl ?_
    (refine C_region ?_
     <;> (refine M_assign ?_; (first | refine M_bool rfl ?_ | refine W_move ?_))
     <;> refine W_nil ?_)
    repeat' first | refine nx ?_ | refine C_cond_t rfl ?_ | refine C_cond_f rfl ?_ | refine Q_block_on rfl ?_
    exact fin_ret1 rfl ⟨by rw [nameB_eq, decide_eq_false (show ¬ 1 ≤ s.length by omega)]; rfl, Ext.refl _⟩
  by_cases h12 : 12 < s.length
  · (refine C_region ?_
     <;> (first | refine M_str rfl ?_ | refine W_move ?_)
     <;> refine W_slen rfl ?_
     <;> (refine W_lss rfl rfl (fun hc => ?_) (fun hc => ?_) <;> try (exfalso; omega))
     <;> (first | refine M_bool rfl ?_ | refine W_move ?_)
     <;> (first | refine W_no rfl ?_ | (refine W_yes rfl ?_; (first | refine M_str rfl ?_ | refine W_move ?_)))
     <;> (first | refine W_no rfl ?_ | (refine W_yes rfl ?_; refine W_slen rfl ?_))
     <;> (first | refine W_no rfl ?_ | (refine W_yes rfl ?_; (refine W_gtr rfl rfl (fun hc => ?_) (fun hc => ?_) <;> try (exfalso; omega))))
     <;> ((first | refine M_pick_t rfl ?_ | refine M_pick_f rfl ?_); (first | refine M_bool rfl ?_ | refine W_move ?_))
     <;> (first | refine M_bool rfl ?_ | refine W_move ?_)
     <;> refine W_no rfl ?_
     <;> (first | refine W_no rfl ?_ | (refine W_yes rfl ?_; (first | refine M_str rfl ?_ | refine W_move ?_)))
     <;> refine W_no rfl ?_
     <;> ((first | refine M_pick_t rfl ?_ | refine M_pick_f rfl ?_); (first | refine M_bool rfl ?_ | refine W_move ?_))
     <;> refine W_nil ?_)
    repeat' first | refine nx ?_ | refine C_cond_t rfl ?_ | refine C_cond_f rfl ?_ | refine Q_block_on rfl ?_
    (refine C_region ?_
     <;> (refine M_assign ?_; (first | refine M_bool rfl ?_ | refine W_move ?_))
     <;> refine W_nil ?_)
    repeat' first | refine nx ?_ | refine C_cond_t rfl ?_ | refine C_cond_f rfl ?_ | refine Q_block_on rfl ?_
    exact fin_ret1 rfl ⟨by rw [nameB_eq, decide_eq_false (show ¬ s.length ≤ 12 by omega)]; simp [upd, Nat.beq], Ext.refl _⟩
  (refine C_region ?_
   <;> (first | refine M_str rfl ?_ | refine W_move ?_)
   <;> refine W_slen rfl ?_
   <;> (refine W_lss rfl rfl (fun hc => ?_) (fun hc => ?_) <;> try (exfalso; omega))
   <;> (first | refine M_bool rfl ?_ | refine W_move ?_)
   <;> (first | refine W_no rfl ?_ | (refine W_yes rfl ?_; (first | refine M_str rfl ?_ | refine W_move ?_)))
   <;> (first | refine W_no rfl ?_ | (refine W_yes rfl ?_; refine W_slen rfl ?_))
   <;> (first | refine W_no rfl ?_ | (refine W_yes rfl ?_; (refine W_gtr rfl rfl (fun hc => ?_) (fun hc => ?_) <;> try (exfalso; omega))))
   <;> ((first | refine M_pick_t rfl ?_ | refine M_pick_f rfl ?_); (first | refine M_bool rfl ?_ | refine W_move ?_))
   <;> (first | refine M_bool rfl ?_ | refine W_move ?_))
  -- at operation 9: <dst=(some 15) op=(call <callee=(value (func 45)) args=[] argTypes=[]>) type=54 guard=(some [8, false])>
  (refine W_yes rfl ?_; refine W_call (keywords_ok w) rfl ?_)
  rintro v w1 ⟨hS, k1⟩
  obtain ⟨va, vc, rfl, _⟩ := id hS
  ((first | refine W_no rfl ?_ | (refine W_yes rfl ?_; (first | refine M_str rfl ?_ | refine W_move ?_))))
  -- at operation 11: <dst=(some 17) op=(call <callee=(value (func 44)) args=[(tmp 15), (tmp 16)] argTypes=[54, 9]>) type=4 guard=(some [8, false])>
  (refine W_yes rfl ?_; refine W_call (in_ok w1 _ keysL s hS) rfl ?_)
  rintro _ wx ⟨rfl, hw⟩
  obtain rfl := hw.symm
  (((first | refine M_pick_t rfl ?_ | refine M_pick_f rfl ?_); (first | refine M_bool rfl ?_ | refine W_move ?_))
   <;> refine W_nil ?_)
  by_cases hkey : s ∈ keysL
  · rw [decide_eq_true hkey]
    repeat' first | refine nx ?_ | refine C_cond_t rfl ?_ | refine C_cond_f rfl ?_ | refine Q_block_on rfl ?_
    (refine C_region ?_
     <;> (refine M_assign ?_; (first | refine M_bool rfl ?_ | refine W_move ?_))
     <;> refine W_nil ?_)
    repeat' first | refine nx ?_ | refine C_cond_t rfl ?_ | refine C_cond_f rfl ?_ | refine Q_block_on rfl ?_
    exact fin_ret1 rfl ⟨by rw [nameB_eq, decide_eq_true hkey]; simp [upd, Nat.beq], k1⟩
  rw [decide_eq_false hkey]
  repeat' first | refine nx ?_ | refine C_cond_t rfl ?_ | refine C_cond_f rfl ?_ | refine Q_block_on rfl ?_
  (refine C_region ?_
   <;> (refine M_assign ?_; (first | refine M_int rfl ?_ | refine W_move ?_))
   <;> refine W_nil ?_)
  repeat' first | refine nx ?_ | refine C_cond_t rfl ?_ | refine C_cond_f rfl ?_ | refine Q_block_on rfl ?_
  refine C_loop (α := Nat) (fun k => [(0, strV s), (3, .int .i64 (k : Int))]) (fun k W => k ≤ s.length ∧ (∀ (i : Nat) (c : UInt8), i < k → s[i]? = some c → okAt i c = true) ∧ W = w1) (fun k => s.length - k) 0 ⟨rfl, rfl, trivial⟩ ⟨by omega, fun i c hi => by omega, rfl⟩ ?_
  rintro k w2 f2 ⟨hk, hok, rfl⟩
  repeat' first | refine nx ?_ | refine C_cond_t rfl ?_ | refine C_cond_f rfl ?_ | refine Q_block_on rfl ?_
  by_cases hlt : k < s.length
  · have hc0 : s[k]? = some s[k] := List.getElem?_eq_getElem hlt
    generalize s[k] = c at hc0
    have cb := c.toNat_lt
    have step : okAt k c = true → ∀ (i : Nat) (d : UInt8), i < k + 1 → s[i]? = some d → okAt i d = true := fun hkc i d hi hd => by
      by_cases hik : i = k
      · subst hik; rw [hc0] at hd; cases hd; exact hkc
      · exact hok i d (by omega) hd
    (refine C_region ?_
     <;> (first | refine M_int rfl ?_ | refine W_move ?_)
     <;> (first | refine M_str rfl ?_ | refine W_move ?_)
     <;> refine W_slen rfl ?_
     <;> (refine W_lss rfl rfl (fun hc => ?_) (fun hc => ?_) <;> try (exfalso; omega))
     <;> refine W_nil ?_)
    repeat' first | refine nx ?_ | refine C_cond_t rfl ?_ | refine C_cond_f rfl ?_ | refine Q_block_on rfl ?_
    refine C_mid (α := Unit) (fun _ => [(0, strV s), (3, .int .i64 (k : Int)), (4, .bool (isSmall c))]) (fun _ W => w2 = W) ?_ ?_
    · by_cases ha : 97 ≤ c.toNat
      · by_cases hb : c.toNat ≤ 122
        · rw [show isSmall c = true by simp [isSmall, ha, hb]]
          (refine C_region ?_
           <;> (first | refine M_str rfl ?_ | refine W_move ?_)
           <;> (first | refine M_int rfl ?_ | refine W_move ?_)
           <;> (first | refine W_sidx rfl rfl (by assumption) ?_ | refine W_sidx (j := 0) rfl rfl (by assumption) ?_)
           <;> (refine W_geq rfl rfl (fun hc => ?_) (fun hc => ?_) <;> try (exfalso; omega))
           <;> (first | refine M_bool rfl ?_ | refine W_move ?_)
           <;> (first | refine W_no rfl ?_ | (refine W_yes rfl ?_; (first | refine M_str rfl ?_ | refine W_move ?_)))
           <;> (first | refine W_no rfl ?_ | (refine W_yes rfl ?_; (first | refine M_int rfl ?_ | refine W_move ?_)))
           <;> (first | refine W_no rfl ?_ | (refine W_yes rfl ?_; (first | refine W_sidx rfl rfl (by assumption) ?_ | refine W_sidx (j := 0) rfl rfl (by assumption) ?_)))
           <;> (first | refine W_no rfl ?_ | (refine W_yes rfl ?_; (refine W_leq rfl rfl (fun hc => ?_) (fun hc => ?_) <;> try (exfalso; omega))))
           <;> ((first | refine M_pick_t rfl ?_ | refine M_pick_f rfl ?_); (first | refine M_bool rfl ?_ | refine W_move ?_))
           <;> (refine M_assign ?_; (first | refine M_bool rfl ?_ | refine W_move ?_))
           <;> refine W_nil ?_)
          exact Q_join () ⟨rfl, rfl, rfl, trivial⟩ rfl
        · rw [show isSmall c = false by simp [isSmall, ha, hb]]
          (refine C_region ?_
           <;> (first | refine M_str rfl ?_ | refine W_move ?_)
           <;> (first | refine M_int rfl ?_ | refine W_move ?_)
           <;> (first | refine W_sidx rfl rfl (by assumption) ?_ | refine W_sidx (j := 0) rfl rfl (by assumption) ?_)
           <;> (refine W_geq rfl rfl (fun hc => ?_) (fun hc => ?_) <;> try (exfalso; omega))
           <;> (first | refine M_bool rfl ?_ | refine W_move ?_)
           <;> (first | refine W_no rfl ?_ | (refine W_yes rfl ?_; (first | refine M_str rfl ?_ | refine W_move ?_)))
           <;> (first | refine W_no rfl ?_ | (refine W_yes rfl ?_; (first | refine M_int rfl ?_ | refine W_move ?_)))
           <;> (first | refine W_no rfl ?_ | (refine W_yes rfl ?_; (first | refine W_sidx rfl rfl (by assumption) ?_ | refine W_sidx (j := 0) rfl rfl (by assumption) ?_)))
           <;> (first | refine W_no rfl ?_ | (refine W_yes rfl ?_; (refine W_leq rfl rfl (fun hc => ?_) (fun hc => ?_) <;> try (exfalso; omega))))
           <;> ((first | refine M_pick_t rfl ?_ | refine M_pick_f rfl ?_); (first | refine M_bool rfl ?_ | refine W_move ?_))
           <;> (refine M_assign ?_; (first | refine M_bool rfl ?_ | refine W_move ?_))
           <;> refine W_nil ?_)
          exact Q_join () ⟨rfl, rfl, rfl, trivial⟩ rfl
      · rw [show isSmall c = false by simp [isSmall, ha]]
        (refine C_region ?_
         <;> (first | refine M_str rfl ?_ | refine W_move ?_)
         <;> (first | refine M_int rfl ?_ | refine W_move ?_)
         <;> (first | refine W_sidx rfl rfl (by assumption) ?_ | refine W_sidx (j := 0) rfl rfl (by assumption) ?_)
         <;> (refine W_geq rfl rfl (fun hc => ?_) (fun hc => ?_) <;> try (exfalso; omega))
         <;> (first | refine M_bool rfl ?_ | refine W_move ?_)
         <;> (first | refine W_no rfl ?_ | (refine W_yes rfl ?_; (first | refine M_str rfl ?_ | refine W_move ?_)))
         <;> (first | refine W_no rfl ?_ | (refine W_yes rfl ?_; (first | refine M_int rfl ?_ | refine W_move ?_)))
         <;> (first | refine W_no rfl ?_ | (refine W_yes rfl ?_; (first | refine W_sidx rfl rfl (by assumption) ?_ | refine W_sidx (j := 0) rfl rfl (by assumption) ?_)))
         <;> (first | refine W_no rfl ?_ | (refine W_yes rfl ?_; (refine W_leq rfl rfl (fun hc => ?_) (fun hc => ?_) <;> try (exfalso; omega))))
         <;> ((first | refine M_pick_t rfl ?_ | refine M_pick_f rfl ?_); (first | refine M_bool rfl ?_ | refine W_move ?_))
         <;> (refine M_assign ?_; (first | refine M_bool rfl ?_ | refine W_move ?_))
         <;> refine W_nil ?_)
        exact Q_join () ⟨rfl, rfl, rfl, trivial⟩ rfl
    rintro _ _ f3 rfl
    repeat' first | refine nx ?_ | refine C_cond_t rfl ?_ | refine C_cond_f rfl ?_ | refine Q_block_on rfl ?_
    refine C_mid (α := Unit) (fun _ => [(0, strV s), (3, .int .i64 (k : Int)), (4, .bool (isSmall c)), (5, .bool (isDig c || decide (c.toNat = 95)))]) (fun _ W => w2 = W) ?_ ?_
    · by_cases ha : 48 ≤ c.toNat
      · by_cases hb : c.toNat ≤ 57
        · rw [show (isDig c || decide (c.toNat = 95)) = true by simp [isDig, ha, hb]]
          (refine C_region ?_
           <;> (first | refine M_str rfl ?_ | refine W_move ?_)
           <;> (first | refine M_int rfl ?_ | refine W_move ?_)
           <;> (first | refine W_sidx rfl rfl (by assumption) ?_ | refine W_sidx (j := 0) rfl rfl (by assumption) ?_)
           <;> (refine W_geq rfl rfl (fun hc => ?_) (fun hc => ?_) <;> try (exfalso; omega))
           <;> (first | refine M_bool rfl ?_ | refine W_move ?_)
           <;> (first | refine W_no rfl ?_ | (refine W_yes rfl ?_; (first | refine M_str rfl ?_ | refine W_move ?_)))
           <;> (first | refine W_no rfl ?_ | (refine W_yes rfl ?_; (first | refine M_int rfl ?_ | refine W_move ?_)))
           <;> (first | refine W_no rfl ?_ | (refine W_yes rfl ?_; (first | refine W_sidx rfl rfl (by assumption) ?_ | refine W_sidx (j := 0) rfl rfl (by assumption) ?_)))
           <;> (first | refine W_no rfl ?_ | (refine W_yes rfl ?_; (refine W_leq rfl rfl (fun hc => ?_) (fun hc => ?_) <;> try (exfalso; omega))))
           <;> ((first | refine M_pick_t rfl ?_ | refine M_pick_f rfl ?_); (first | refine M_bool rfl ?_ | refine W_move ?_))
           <;> (first | refine M_bool rfl ?_ | refine W_move ?_)
           <;> (first | refine W_no rfl ?_ | (refine W_yes rfl ?_; (first | refine M_str rfl ?_ | refine W_move ?_)))
           <;> (first | refine W_no rfl ?_ | (refine W_yes rfl ?_; (first | refine M_int rfl ?_ | refine W_move ?_)))
           <;> (first | refine W_no rfl ?_ | (refine W_yes rfl ?_; (first | refine W_sidx rfl rfl (by assumption) ?_ | refine W_sidx (j := 0) rfl rfl (by assumption) ?_)))
           <;> (first | refine W_no rfl ?_ | (refine W_yes rfl ?_; (refine W_eql rfl rfl (fun hc => ?_) (fun hc => ?_) <;> try (exfalso; omega))))
           <;> ((first | refine M_pick_t rfl ?_ | refine M_pick_f rfl ?_); (first | refine M_bool rfl ?_ | refine W_move ?_))
           <;> (refine M_assign ?_; (first | refine M_bool rfl ?_ | refine W_move ?_))
           <;> refine W_nil ?_)
          exact Q_join () ⟨rfl, rfl, rfl, rfl, trivial⟩ rfl
        · by_cases hu : c.toNat = 95
          · rw [show (isDig c || decide (c.toNat = 95)) = true by simp [hu]]
            (refine C_region ?_
             <;> (first | refine M_str rfl ?_ | refine W_move ?_)
             <;> (first | refine M_int rfl ?_ | refine W_move ?_)
             <;> (first | refine W_sidx rfl rfl (by assumption) ?_ | refine W_sidx (j := 0) rfl rfl (by assumption) ?_)
             <;> (refine W_geq rfl rfl (fun hc => ?_) (fun hc => ?_) <;> try (exfalso; omega))
             <;> (first | refine M_bool rfl ?_ | refine W_move ?_)
             <;> (first | refine W_no rfl ?_ | (refine W_yes rfl ?_; (first | refine M_str rfl ?_ | refine W_move ?_)))
             <;> (first | refine W_no rfl ?_ | (refine W_yes rfl ?_; (first | refine M_int rfl ?_ | refine W_move ?_)))
             <;> (first | refine W_no rfl ?_ | (refine W_yes rfl ?_; (first | refine W_sidx rfl rfl (by assumption) ?_ | refine W_sidx (j := 0) rfl rfl (by assumption) ?_)))
             <;> (first | refine W_no rfl ?_ | (refine W_yes rfl ?_; (refine W_leq rfl rfl (fun hc => ?_) (fun hc => ?_) <;> try (exfalso; omega))))
             <;> ((first | refine M_pick_t rfl ?_ | refine M_pick_f rfl ?_); (first | refine M_bool rfl ?_ | refine W_move ?_))
             <;> (first | refine M_bool rfl ?_ | refine W_move ?_)
             <;> (first | refine W_no rfl ?_ | (refine W_yes rfl ?_; (first | refine M_str rfl ?_ | refine W_move ?_)))
             <;> (first | refine W_no rfl ?_ | (refine W_yes rfl ?_; (first | refine M_int rfl ?_ | refine W_move ?_)))
             <;> (first | refine W_no rfl ?_ | (refine W_yes rfl ?_; (first | refine W_sidx rfl rfl (by assumption) ?_ | refine W_sidx (j := 0) rfl rfl (by assumption) ?_)))
             <;> (first | refine W_no rfl ?_ | (refine W_yes rfl ?_; (refine W_eql rfl rfl (fun hc => ?_) (fun hc => ?_) <;> try (exfalso; omega))))
             <;> ((first | refine M_pick_t rfl ?_ | refine M_pick_f rfl ?_); (first | refine M_bool rfl ?_ | refine W_move ?_))
             <;> (refine M_assign ?_; (first | refine M_bool rfl ?_ | refine W_move ?_))
             <;> refine W_nil ?_)
            exact Q_join () ⟨rfl, rfl, rfl, rfl, trivial⟩ rfl
          · rw [show (isDig c || decide (c.toNat = 95)) = false by simp [isDig, hu, ha, hb]]
            (refine C_region ?_
             <;> (first | refine M_str rfl ?_ | refine W_move ?_)
             <;> (first | refine M_int rfl ?_ | refine W_move ?_)
             <;> (first | refine W_sidx rfl rfl (by assumption) ?_ | refine W_sidx (j := 0) rfl rfl (by assumption) ?_)
             <;> (refine W_geq rfl rfl (fun hc => ?_) (fun hc => ?_) <;> try (exfalso; omega))
             <;> (first | refine M_bool rfl ?_ | refine W_move ?_)
             <;> (first | refine W_no rfl ?_ | (refine W_yes rfl ?_; (first | refine M_str rfl ?_ | refine W_move ?_)))
             <;> (first | refine W_no rfl ?_ | (refine W_yes rfl ?_; (first | refine M_int rfl ?_ | refine W_move ?_)))
             <;> (first | refine W_no rfl ?_ | (refine W_yes rfl ?_; (first | refine W_sidx rfl rfl (by assumption) ?_ | refine W_sidx (j := 0) rfl rfl (by assumption) ?_)))
             <;> (first | refine W_no rfl ?_ | (refine W_yes rfl ?_; (refine W_leq rfl rfl (fun hc => ?_) (fun hc => ?_) <;> try (exfalso; omega))))
             <;> ((first | refine M_pick_t rfl ?_ | refine M_pick_f rfl ?_); (first | refine M_bool rfl ?_ | refine W_move ?_))
             <;> (first | refine M_bool rfl ?_ | refine W_move ?_)
             <;> (first | refine W_no rfl ?_ | (refine W_yes rfl ?_; (first | refine M_str rfl ?_ | refine W_move ?_)))
             <;> (first | refine W_no rfl ?_ | (refine W_yes rfl ?_; (first | refine M_int rfl ?_ | refine W_move ?_)))
             <;> (first | refine W_no rfl ?_ | (refine W_yes rfl ?_; (first | refine W_sidx rfl rfl (by assumption) ?_ | refine W_sidx (j := 0) rfl rfl (by assumption) ?_)))
             <;> (first | refine W_no rfl ?_ | (refine W_yes rfl ?_; (refine W_eql rfl rfl (fun hc => ?_) (fun hc => ?_) <;> try (exfalso; omega))))
             <;> ((first | refine M_pick_t rfl ?_ | refine M_pick_f rfl ?_); (first | refine M_bool rfl ?_ | refine W_move ?_))
             <;> (refine M_assign ?_; (first | refine M_bool rfl ?_ | refine W_move ?_))
             <;> refine W_nil ?_)
            exact Q_join () ⟨rfl, rfl, rfl, rfl, trivial⟩ rfl
      · rw [show (isDig c || decide (c.toNat = 95)) = false by simp [isDig, ha]; omega]
        (refine C_region ?_
         <;> (first | refine M_str rfl ?_ | refine W_move ?_)
         <;> (first | refine M_int rfl ?_ | refine W_move ?_)
         <;> (first | refine W_sidx rfl rfl (by assumption) ?_ | refine W_sidx (j := 0) rfl rfl (by assumption) ?_)
         <;> (refine W_geq rfl rfl (fun hc => ?_) (fun hc => ?_) <;> try (exfalso; omega))
         <;> (first | refine M_bool rfl ?_ | refine W_move ?_)
         <;> (first | refine W_no rfl ?_ | (refine W_yes rfl ?_; (first | refine M_str rfl ?_ | refine W_move ?_)))
         <;> (first | refine W_no rfl ?_ | (refine W_yes rfl ?_; (first | refine M_int rfl ?_ | refine W_move ?_)))
         <;> (first | refine W_no rfl ?_ | (refine W_yes rfl ?_; (first | refine W_sidx rfl rfl (by assumption) ?_ | refine W_sidx (j := 0) rfl rfl (by assumption) ?_)))
         <;> (first | refine W_no rfl ?_ | (refine W_yes rfl ?_; (refine W_leq rfl rfl (fun hc => ?_) (fun hc => ?_) <;> try (exfalso; omega))))
         <;> ((first | refine M_pick_t rfl ?_ | refine M_pick_f rfl ?_); (first | refine M_bool rfl ?_ | refine W_move ?_))
         <;> (first | refine M_bool rfl ?_ | refine W_move ?_)
         <;> (first | refine W_no rfl ?_ | (refine W_yes rfl ?_; (first | refine M_str rfl ?_ | refine W_move ?_)))
         <;> (first | refine W_no rfl ?_ | (refine W_yes rfl ?_; (first | refine M_int rfl ?_ | refine W_move ?_)))
         <;> (first | refine W_no rfl ?_ | (refine W_yes rfl ?_; (first | refine W_sidx rfl rfl (by assumption) ?_ | refine W_sidx (j := 0) rfl rfl (by assumption) ?_)))
         <;> (first | refine W_no rfl ?_ | (refine W_yes rfl ?_; (refine W_eql rfl rfl (fun hc => ?_) (fun hc => ?_) <;> try (exfalso; omega))))
         <;> ((first | refine M_pick_t rfl ?_ | refine M_pick_f rfl ?_); (first | refine M_bool rfl ?_ | refine W_move ?_))
         <;> (refine M_assign ?_; (first | refine M_bool rfl ?_ | refine W_move ?_))
         <;> refine W_nil ?_)
        exact Q_join () ⟨rfl, rfl, rfl, rfl, trivial⟩ rfl
    rintro _ _ f4 rfl
    repeat' first | refine nx ?_ | refine C_cond_t rfl ?_ | refine C_cond_f rfl ?_ | refine Q_block_on rfl ?_
    have hbad : okAt k c = false → nameB s = false := fun h => by
      have hsh : shapeB s = false := by
        cases hsb : shapeB s with
        | false => rfl
        | true => rw [(shapeB_iff s (by omega)).1 hsb k c hc0] at h; cases h
      rw [nameB_eq, hsh]; simp
    have hoke : okAt k c = (isSmall c || (decide (0 < k) && (isDig c || decide (c.toNat = 95)))) := rfl
    cases hsm : isSmall c with
    | true =>
      (refine C_region ?_
       <;> (first | refine M_bool rfl ?_ | refine W_move ?_)
       <;> refine W_not rfl ?_
       <;> (first | refine M_bool rfl ?_ | refine W_move ?_)
       <;> (first | refine W_no rfl ?_ | (refine W_yes rfl ?_; (first | refine M_int rfl ?_ | refine W_move ?_)))
       <;> (first | refine W_no rfl ?_ | (refine W_yes rfl ?_; (refine W_eql rfl rfl (fun hc => ?_) (fun hc => ?_) <;> try (exfalso; omega))))
       <;> (first | refine W_no rfl ?_ | (refine W_yes rfl ?_; (first | refine M_bool rfl ?_ | refine W_move ?_)))
       <;> (first | refine W_no rfl ?_ | (refine W_yes rfl ?_; (first | refine M_bool rfl ?_ | refine W_move ?_)))
       <;> (first | refine W_no rfl ?_ | (refine W_yes rfl ?_; refine W_not rfl ?_))
       <;> (first | refine W_no rfl ?_ | (refine W_yes rfl ?_; ((first | refine M_pick_t rfl ?_ | refine M_pick_f rfl ?_); (first | refine M_bool rfl ?_ | refine W_move ?_))))
       <;> ((first | refine M_pick_t rfl ?_ | refine M_pick_f rfl ?_); (first | refine M_bool rfl ?_ | refine W_move ?_))
       <;> refine W_nil ?_)
      repeat' first | refine nx ?_ | refine C_cond_t rfl ?_ | refine C_cond_f rfl ?_ | refine Q_block_on rfl ?_
      (refine C_region ?_
       <;> (first | refine M_int rfl ?_ | refine W_move ?_)
       <;> refine W_add rfl rfl (by first | exact inR_i64 (by omega) (by omega) | exact inR_u8 (by omega) (by omega) | exact inR_u16 (by omega) (by omega)) ?_
       <;> (refine M_assign ?_; (first | refine M_int rfl ?_ | refine W_move ?_))
       <;> refine W_nil ?_)
      repeat' first | refine nx ?_ | refine C_cond_t rfl ?_ | refine C_cond_f rfl ?_ | refine Q_block_on rfl ?_
      refine ⟨k + 1, ⟨rfl, ⟨rfl, ?_, trivial⟩, ⟨by omega, step (by rw [hoke, hsm]; rfl), rfl⟩⟩, by omega⟩
      show Value.int .i64 ((k : Int) + 1) = _
      rw [Int.natCast_add]; rfl
    | false =>
      by_cases hk0 : k = 0
      · have hb := hbad (by rw [hoke, hsm, decide_eq_false (show ¬ 0 < k by omega)]; rfl)
        (refine C_region ?_
         <;> (first | refine M_bool rfl ?_ | refine W_move ?_)
         <;> refine W_not rfl ?_
         <;> (first | refine M_bool rfl ?_ | refine W_move ?_)
         <;> (first | refine W_no rfl ?_ | (refine W_yes rfl ?_; (first | refine M_int rfl ?_ | refine W_move ?_)))
         <;> (first | refine W_no rfl ?_ | (refine W_yes rfl ?_; (refine W_eql rfl rfl (fun hc => ?_) (fun hc => ?_) <;> try (exfalso; omega))))
         <;> (first | refine W_no rfl ?_ | (refine W_yes rfl ?_; (first | refine M_bool rfl ?_ | refine W_move ?_)))
         <;> (first | refine W_no rfl ?_ | (refine W_yes rfl ?_; (first | refine M_bool rfl ?_ | refine W_move ?_)))
         <;> (first | refine W_no rfl ?_ | (refine W_yes rfl ?_; refine W_not rfl ?_))
         <;> (first | refine W_no rfl ?_ | (refine W_yes rfl ?_; ((first | refine M_pick_t rfl ?_ | refine M_pick_f rfl ?_); (first | refine M_bool rfl ?_ | refine W_move ?_))))
         <;> ((first | refine M_pick_t rfl ?_ | refine M_pick_f rfl ?_); (first | refine M_bool rfl ?_ | refine W_move ?_))
         <;> refine W_nil ?_)
        repeat' first | refine nx ?_ | refine C_cond_t rfl ?_ | refine C_cond_f rfl ?_ | refine Q_block_on rfl ?_
        (refine C_region ?_
         <;> (refine M_assign ?_; (first | refine M_bool rfl ?_ | refine W_move ?_))
         <;> refine W_nil ?_)
        repeat' first | refine nx ?_ | refine C_cond_t rfl ?_ | refine C_cond_f rfl ?_ | refine Q_block_on rfl ?_
        exact fin_ret1 rfl ⟨by rw [hb]; rfl, k1⟩
      · cases hrs : (isDig c || decide (c.toNat = 95)) with
        | true =>
          (refine C_region ?_
           <;> (first | refine M_bool rfl ?_ | refine W_move ?_)
           <;> refine W_not rfl ?_
           <;> (first | refine M_bool rfl ?_ | refine W_move ?_)
           <;> (first | refine W_no rfl ?_ | (refine W_yes rfl ?_; (first | refine M_int rfl ?_ | refine W_move ?_)))
           <;> (first | refine W_no rfl ?_ | (refine W_yes rfl ?_; (refine W_eql rfl rfl (fun hc => ?_) (fun hc => ?_) <;> try (exfalso; omega))))
           <;> (first | refine W_no rfl ?_ | (refine W_yes rfl ?_; (first | refine M_bool rfl ?_ | refine W_move ?_)))
           <;> (first | refine W_no rfl ?_ | (refine W_yes rfl ?_; (first | refine M_bool rfl ?_ | refine W_move ?_)))
           <;> (first | refine W_no rfl ?_ | (refine W_yes rfl ?_; refine W_not rfl ?_))
           <;> (first | refine W_no rfl ?_ | (refine W_yes rfl ?_; ((first | refine M_pick_t rfl ?_ | refine M_pick_f rfl ?_); (first | refine M_bool rfl ?_ | refine W_move ?_))))
           <;> ((first | refine M_pick_t rfl ?_ | refine M_pick_f rfl ?_); (first | refine M_bool rfl ?_ | refine W_move ?_))
           <;> refine W_nil ?_)
          repeat' first | refine nx ?_ | refine C_cond_t rfl ?_ | refine C_cond_f rfl ?_ | refine Q_block_on rfl ?_
          (refine C_region ?_
           <;> (first | refine M_int rfl ?_ | refine W_move ?_)
           <;> refine W_add rfl rfl (by first | exact inR_i64 (by omega) (by omega) | exact inR_u8 (by omega) (by omega) | exact inR_u16 (by omega) (by omega)) ?_
           <;> (refine M_assign ?_; (first | refine M_int rfl ?_ | refine W_move ?_))
           <;> refine W_nil ?_)
          repeat' first | refine nx ?_ | refine C_cond_t rfl ?_ | refine C_cond_f rfl ?_ | refine Q_block_on rfl ?_
          refine ⟨k + 1, ⟨rfl, ⟨rfl, ?_, trivial⟩, ⟨by omega, step (by rw [hoke, hsm, hrs, decide_eq_true (show 0 < k by omega)]; rfl), rfl⟩⟩, by omega⟩
          show Value.int .i64 ((k : Int) + 1) = _
          rw [Int.natCast_add]; rfl
        | false =>
          have hb := hbad (by rw [hoke, hsm, hrs]; simp)
          (refine C_region ?_
           <;> (first | refine M_bool rfl ?_ | refine W_move ?_)
           <;> refine W_not rfl ?_
           <;> (first | refine M_bool rfl ?_ | refine W_move ?_)
           <;> (first | refine W_no rfl ?_ | (refine W_yes rfl ?_; (first | refine M_int rfl ?_ | refine W_move ?_)))
           <;> (first | refine W_no rfl ?_ | (refine W_yes rfl ?_; (refine W_eql rfl rfl (fun hc => ?_) (fun hc => ?_) <;> try (exfalso; omega))))
           <;> (first | refine W_no rfl ?_ | (refine W_yes rfl ?_; (first | refine M_bool rfl ?_ | refine W_move ?_)))
           <;> (first | refine W_no rfl ?_ | (refine W_yes rfl ?_; (first | refine M_bool rfl ?_ | refine W_move ?_)))
           <;> (first | refine W_no rfl ?_ | (refine W_yes rfl ?_; refine W_not rfl ?_))
           <;> (first | refine W_no rfl ?_ | (refine W_yes rfl ?_; ((first | refine M_pick_t rfl ?_ | refine M_pick_f rfl ?_); (first | refine M_bool rfl ?_ | refine W_move ?_))))
           <;> ((first | refine M_pick_t rfl ?_ | refine M_pick_f rfl ?_); (first | refine M_bool rfl ?_ | refine W_move ?_))
           <;> refine W_nil ?_)
          repeat' first | refine nx ?_ | refine C_cond_t rfl ?_ | refine C_cond_f rfl ?_ | refine Q_block_on rfl ?_
          (refine C_region ?_
           <;> (refine M_assign ?_; (first | refine M_bool rfl ?_ | refine W_move ?_))
           <;> refine W_nil ?_)
          repeat' first | refine nx ?_ | refine C_cond_t rfl ?_ | refine C_cond_f rfl ?_ | refine Q_block_on rfl ?_
          exact fin_ret1 rfl ⟨by rw [hb]; rfl, k1⟩
  · obtain rfl : k = s.length := by omega
    have hsh : shapeB s = true := (shapeB_iff s (by omega)).2 fun i c hc => hok i c (List.getElem?_eq_some_iff.1 hc).1 hc
    (refine C_region ?_
     <;> (first | refine M_int rfl ?_ | refine W_move ?_)
     <;> (first | refine M_str rfl ?_ | refine W_move ?_)
     <;> refine W_slen rfl ?_
     <;> (refine W_lss rfl rfl (fun hc => ?_) (fun hc => ?_) <;> try (exfalso; omega))
     <;> refine W_nil ?_)
    repeat' first | refine nx ?_ | refine C_cond_t rfl ?_ | refine C_cond_f rfl ?_ | refine Q_block_on rfl ?_
    (refine C_region ?_
     <;> (refine M_assign ?_; (first | refine M_bool rfl ?_ | refine W_move ?_))
     <;> refine W_nil ?_)
    repeat' first | refine nx ?_ | refine C_cond_t rfl ?_ | refine C_cond_f rfl ?_ | refine Q_block_on rfl ?_
    exact fin_ret1 rfl ⟨by rw [nameB_eq, hsh, decide_eq_false hkey, decide_eq_true (show 1 ≤ s.length by omega), decide_eq_true (show s.length ≤ 12 by omega)]; rfl, k1⟩

/-- Spec, as cells -/
theorem spec_form (w : World) (t : List UInt8) (hG : GK w) : Fn Tryz.prog 23 [strV t] w fun v w' => Ext w w' ∧ ∃ (o : Out Spc) (c0 c1 : Value), PRes .spec t o ∧ v = .tuple #[.agg [c0, c1].toArray, .int .i64 o.errno, .int .i64 o.loc] ∧ SlAt sgnR anyB w' c0 (Out.val zeroS o).sigs ∧ SlAt reqR anyB w' c1 (Out.val zeroS o).reqs ∧ oneC [c0, c1] := by
  refine Fn.mono (parse_S w t hG) ?_
  rintro v w' h
  obtain ⟨o, c, p, rfl, k, f⟩ := h.out (zeroS_fits _ _)
  have o1 := spcR.one f
  obtain ⟨c0, c1, rfl, f0, f1⟩ := spcR.mono f (fun _ _ => trivial)
  exact ⟨k, o, c0, c1, p, rfl, f0, f1, o1⟩
/-- Formula, as cells -/
theorem formula_gen (w : World) (t : List UInt8) (hG : GK w) : Fn Tryz.prog 16 [strV t] w fun v w' => Ext w w' ∧ ∃ (o : Out Fml) (c0 c1 c2 c3 c4 : Value), PRes .formula t o ∧ v = .tuple #[.agg [c0, c1, c2, c3, c4].toArray, .int .i64 o.errno, .int .i64 o.loc] ∧ FV w' (.agg [c0, c1, c2, c3, c4].toArray) (Out.val zeroF o) ∧ oneC [c0, c1, c2, c3, c4] := by
  refine Fn.mono (parse_F w t hG) ?_
  rintro v w' h
  obtain ⟨o, c, p, rfl, k, f⟩ := h.out (zeroF_fits _ _)
  have l : c.length = 5 := fmlR.len f
  have o1 := fmlR.one f
  obtain ⟨c0, c1, c2, c3, c4, rfl⟩ := cells5 l
  exact ⟨k, o, c0, c1, c2, c3, c4, p, rfl, (fmlR.mono f (fun _ _ => trivial)).2, o1⟩
/-- Edit, as cells -/
theorem edit_form (w : World) (t : List UInt8) (hG : GK w) : Fn Tryz.prog 25 [strV t] w fun v w' => Ext w w' ∧ ∃ (o : Out Edt) (c0 c1 c2 c3 c4 c5 c6 c7 c8 : Value), PRes .edit t o ∧ v = .tuple #[.agg [c0, c1, c2, c3, c4, c5, c6, c7, c8].toArray, .int .i64 o.errno, .int .i64 o.loc] ∧ edtR.fits anyB w' [c0, c1, c2, c3, c4, c5, c6, c7, c8] (Out.val zeroD o) ∧ oneC [c0, c1, c2, c3, c4, c5, c6, c7, c8] := by
  refine Fn.mono (parse_D w t hG) ?_
  rintro v w' h
  obtain ⟨o, c, p, rfl, k, f⟩ := h.out (zeroD_fits _ _)
  have l : c.length = 9 := edtR.len f
  have o1 := edtR.one f
  obtain ⟨c0, c1, c2, c3, c4, c5, c6, c7, c8, rfl⟩ := cells9 l
  exact ⟨k, o, c0, c1, c2, c3, c4, c5, c6, c7, c8, p, rfl, edtR.mono f (fun _ _ => trivial), o1⟩
end Go.Proofs.YtmnhnbpnjepkbaaGreatDoor
