/- The printer's plain law: the tokens of a formula are parsed to it. The printer's plain law: a formula's tokens are parsed to it, whatever it is. The printer's plain law: what is parsed can be printed, and has been read from enough parentheses. The printer's plain law: specifications and edits. The printer's plain law: what the tokens of specifications and edits are parsed to. The printer's plain law: what is parsed is no greater than its tokens. Conditions: none. -/
import Derived.Test.YtfcgdbmoncnibaaGreatDoorZE12

namespace Go.Proofs.YtfcgdbmoncnibaaGreatDoor
set_option linter.unusedVariables false
variable {mk : Prop} [MK mk]
def tkn (b : BT) : Tok := ⟨b.1, b.2, 0⟩
abbrev BF (bs : List BT) : List Tok := bs.map tkn
theorem toks_bare (bs : List BT) : (BF bs).map bare = bs := by
 rw [BF, List.map_map, show (bare ∘ tkn) = id from rfl, List.map_id]
def stopB (n : Nat) (b : BT) : Bool := !Aw [61] (some b) && !Aw [33, 61] (some b) && (decide (4 ≤ n) || ((infixT.lookup b.2).isNone && (decide (3 ≤ n) || (!Aw [38] (some b) && (decide (2 ≤ n) || (!Aw [124] (some b) && (decide (1 ≤ n) || !Aw [45, 62] (some b))))))))
def StopL (n : Nat) (r : List Tok) : Prop := ∀ x, r.head? = some x → stopB n (bare x) = true
theorem StopL.nil (n : Nat) : StopL n [] := fun x h => by cases h
theorem StopL.cons {n : Nat} {x : Tok} {r : List Tok} (h : stopB n (bare x) = true) : StopL n (x :: r) := fun y hy => by cases hy; exact h
theorem StopL.mono {n m : Nat} (hnm : n ≤ m) {r : List Tok} (h : StopL n r) : StopL m r := by
 intro x hx
 have := h x hx
 simp only [stopB, Bool.and_eq_true, Bool.or_eq_true, decide_eq_true_eq] at this ⊢
 obtain ⟨h1, h2⟩ := this
 refine ⟨h1, ?_⟩
 rcases h2 with h2 | ⟨h2, h3⟩
 ·left; omega
 ·right; refine ⟨h2, ?_⟩
  rcases h3 with h3 | ⟨h3, h4⟩
  ·left; omega
  ·right; refine ⟨h3, ?_⟩
   rcases h4 with h4 | ⟨h4, h5⟩
   ·left; omega
   ·right; refine ⟨h4, ?_⟩
    rcases h5 with h5 | h5
    ·left; omega
    ·right; exact h5
theorem sees_of {s : List UInt8} {r : List Tok} (h : ∀ x, r.head? = some x → Aw s (some (bare x)) = false) : Aw s (r.head?.map bare) = false := by
 cases hr : r.head? with
 | none => rfl
 | some x => exact h x hr
section
variable {n : Nat} {r : List Tok} (h : StopL n r)
include h
theorem StopL.eq : Aw [61] (r.head?.map bare) = false := sees_of fun x hx => by
 have := h x hx
 simp only [stopB, Bool.and_eq_true, Bool.not_eq_true'] at this
 exact this.1.1
theorem StopL.ne : Aw [33, 61] (r.head?.map bare) = false := sees_of fun x hx => by
 have := h x hx
 simp only [stopB, Bool.and_eq_true, Bool.not_eq_true'] at this
 exact this.1.2
theorem StopL.inf (hn : n ≤ 3) : ∀ x, r.head? = some x → infixT.lookup x.text = none := fun x hx => by
 have := h x hx
 simp only [stopB, Bool.and_eq_true, Bool.or_eq_true, decide_eq_true_eq, Option.isNone_iff_eq_none] at this
 rcases this.2 with h2 | ⟨h2, _⟩
 ·omega
 ·exact h2
theorem StopL.and (hn : n ≤ 2) : Aw [38] (r.head?.map bare) = false := sees_of fun x hx => by
 have := h x hx
 simp only [stopB, Bool.and_eq_true, Bool.or_eq_true, decide_eq_true_eq, Bool.not_eq_true'] at this
 rcases this.2 with h2 | ⟨h2, h3 | ⟨h3, _⟩⟩
 ·omega
 ·omega
 ·exact h3
theorem StopL.or (hn : n ≤ 1) : Aw [124] (r.head?.map bare) = false := sees_of fun x hx => by
 have := h x hx
 simp only [stopB, Bool.and_eq_true, Bool.or_eq_true, decide_eq_true_eq, Bool.not_eq_true'] at this
 rcases this.2 with h2 | ⟨h2, h3 | ⟨h3, h4 | ⟨h4, _⟩⟩⟩
 ·omega
 ·omega
 ·omega
 ·exact h4
theorem StopL.imp (hn : n = 0) : Aw [45, 62] (r.head?.map bare) = false := sees_of fun x hx => by
 have := h x hx
 simp only [stopB, Bool.and_eq_true, Bool.or_eq_true, decide_eq_true_eq, Bool.not_eq_true'] at this
 rcases this.2 with h2 | ⟨h2, h3 | ⟨h3, h4 | ⟨h4, h5 | h5⟩⟩⟩
 ·omega
 ·omega
 ·omega
 ·omega
 ·exact h5
end
def RunL : Nat → List Tok → Fml → List Tok → Prop
 | 0, l, f, r => RunN .formula l (.ok (f, r))
 | 1, l, f, r => RunN .orN l (.ok (f, r))
 | 2, l, f, r => RunN .andN l (.ok (f, r))
 | 3, l, f, r => RunN .untilN l (.ok (f, r))
 | _, l, f, r => RunN .unary l (.ok (f, r))
theorem climb1 : ∀ {n : Nat} {l r : List Tok} {f : Fml}, n ≤ 3 → RunL (n + 1) l f r → StopL n r → RunL n l f r
 | 0, _, _, _, _, h, s => up_imp h (s.imp rfl)
 | 1, _, _, _, _, h, s => up_or h (s.or (Nat.le_refl _))
 | 2, _, _, _, _, h, s => up_and h (s.and (Nat.le_refl _))
 | 3, _, _, _, _, h, s => up_until h (s.inf (Nat.le_refl _))
 | n + 4, _, _, _, hn, _, _ => by omega
theorem climb : ∀ (d n : Nat) {l r : List Tok} {f : Fml}, n + d ≤ 4 → RunL (n + d) l f r → StopL n r → RunL n l f r
 | 0, _, _, _, _, _, h, _ => h
 | d + 1, n, l, r, f, hd, h, s => climb1 (by omega) (climb d (n + 1) (by omega) (by rw [show n + 1 + d = n + (d + 1) by omega]; exact h) (s.mono (by omega))) s
theorem ix0 {o : Opr} (r : List Tok) (h : o.indexed = 0) : Run (B8 o) r (.ok (none, r)) := by
 unfold B8; rw [if_pos h]; exact Run.ret _ _
theorem ixNo {o : Opr} {r : List Tok} (h : Aw [91] (r.head?.map bare) = false) : Run (B8 o) r (.ok (none, r)) := by
 unfold B8
 split
 ·exact Run.ret _ _
 ·exact Ch h (Run.ret _ _)
theorem ixYes {o : Opr} {v : Int} {r : List Tok} (h : o.indexed ≠ 0) (hv : 0 ≤ v) : Run (B8 o) (tkn (3, [91]) :: tkn (2, CN v) :: tkn (3, [93]) :: r) (.ok (some v, r)) := by
 unfold B8
 rw [if_neg h]
 have e : DV (tkn (2, CN v)).text = v := numOf_numT hv
 have := run_number (q := fun n => (A1 [93]).bind fun _ => .ret (some n)) (x := tkn (2, CN v)) (l := tkn (3, [93]) :: r) rfl (CZ rfl (Run.ret _ _))
 rw [e] at this
 exact DO rfl this
theorem un_bin {l r1 r2 r : List Tok} {t1 : Tok} {o : Opr} {n : Option Int} {f g : Fml} (h1 : RunN .unary l (.ok (f, t1 :: r1))) (ht : infixT.lookup t1.text = some o) (hi : Run (B8 o) r1 (.ok (n, r2))) (h2 : RunN .untilN r2 (.ok (g, r))) :
  RunN .untilN l (.ok (⟨o.op, [], n.getD o.val, 0, [f, g]⟩, r)) :=
 Run.call h1 (run_take ht (hi.bind (Run.call h2 (Run.ret _ _))))
theorem un_pre {r1 r2 r : List Tok} {t1 : Tok} {o : Opr} {n : Option Int} {g : Fml} (ht : prefixT.lookup t1.text = some o) (hi : Run (B8 o) r1 (.ok (n, r2))) (h2 : RunN .unary r2 (.ok (g, r))) :
  RunN .unary (t1 :: r1) (.ok (match n with | some n => ⟨o.indexed, [], o.val, n, [g]⟩ | none => ⟨o.op, [], o.val, 0, [g]⟩, r)) := by
 refine run_take ht (hi.bind (Run.call h2 ?_))
 cases n <;> exact Run.ret _ _
theorem lookup_keyS {β : Type} {a : List UInt8} {b : β} : ∀ {l : List (List UInt8 × β)}, l.lookup a = some b → a ∈ l.map (·.1)
 | [], h => by cases h
 | (k, v) :: l, h => by
  rw [List.lookup_cons] at h
  by_cases hk : a = k
  ·simp [hk]
  ·rw [show (a == k) = false by simpa using hk] at h
   have := lookup_keyS (l := l) h
   simp only [List.map_cons, List.mem_cons]
   exact .inr this
theorem name_pre {nm : List UInt8} (h : Bh nm = true) : prefixT.lookup nm = none := by
 cases ho : prefixT.lookup nm with
 | none => rfl
 | some o =>
  have := lookup_keyS ho
  obtain ⟨_, _, h3, _⟩ := Bf h
  simp only [prefixT, List.map_cons, List.map_nil, List.mem_cons, List.not_mem_nil, or_false] at this
  rcases this with rfl | rfl | rfl | rfl | rfl | rfl | rfl | rfl <;> exact absurd h3 (by decide)
theorem name_sees {nm s : List UInt8} (h : Bh nm = true) (hs : s ∈ keysL ∨ BP (s.getD 0 0) = false) : Aw s (some (1, nm)) = false := by
 obtain ⟨_, _, h3, _, h5⟩ := Bf h
 have : nm ≠ s := by
  rintro rfl
  rcases hs with hs | hs
  ·exact h5 hs
  ·rw [h3] at hs; cases hs
 simp [Aw, this]
theorem run_word {w : List UInt8} {r : List Tok} {f : Fml} (hp : prefixT.lookup w = none) (h : RunN .primary (tkn (1, w) :: r) (.ok (f, r))) : RunN .unary (tkn (1, w) :: r) (.ok (f, r)) :=
 run_take_no (fun z hz => by cases hz; exact hp) (Run.call h (Run.ret _ _))
theorem run_true (r : List Tok) : RunN .unary (tkn (1, [116, 114, 117, 101]) :: r) (.ok (⟨1, [], 0, 0, []⟩, r)) := run_word (by decide) (DO rfl (Run.ret _ _))
theorem run_false (r : List Tok) : RunN .unary (tkn (1, [102, 97, 108, 115, 101]) :: r) (.ok (⟨2, [], 0, 0, []⟩, r)) := run_word (by decide) (Ch rfl (DO rfl (Run.ret _ _)))
theorem run_is {nm : List UInt8} {v : Int} {r : List Tok} (h : Bh nm = true) (hv : 0 ≤ v) (hr : StopL 4 r) : RunN .unary (BF ((1, nm) :: if v = 1 then [] else [(3, [61]), (2, CN v)]) ++ r) (.ok (⟨3, nm, v, 0, []⟩, r)) := by
 refine run_take_no (fun z hz => by cases hz; exact name_pre h) (Run.call (nt := .primary) (l' := r) (v := (⟨3, nm, v, 0, []⟩ : Fml)) ?_ (Run.ret _ _))
 refine Ch (name_sees h (.inl (by decide))) (Ch (name_sees h (.inl (by decide))) (Ch (name_sees h (.inr (by decide))) ?_))
 refine run_name (x := tkn (1, nm)) rfl h ?_
 by_cases h1 : v = 1
 ·rw [if_pos h1]
  subst h1
  exact Ch hr.eq (Ch hr.ne (Run.ret _ _))
 ·rw [if_neg h1]
  refine DO (x := tkn (3, [61])) rfl ?_
  have e : DV (tkn (2, CN v)).text = v := numOf_numT hv
  have := run_number (q := fun n => .ret (isF nm n)) (x := tkn (2, CN v)) (l := r) rfl (Run.ret _ _)
  rw [e] at this
  exact this
def RunsF (f : Fml) : Prop := ∀ (n : Nat) (r : List Tok), n ≤ 4 → StopL n r → RunL n (BF (tkF n f) ++ r) f r
theorem tk_head : ∀ (m : Nat) (f : Fml) (n : Nat), SizeOf.sizeOf f ≤ m → okF f = true → ∃ x t, tkF n f = x :: t ∧ Aw [91] (some x) = false
 | 0, f, n, hm, _ => by cases f; simp at hm
 | m + 1, .mk op nm v b args, n, hm, hok => by
  simp only [okF, Bool.and_eq_true] at hok
  simp only [tkF]
  by_cases hlv : (BR op).level < n
  ·rw [decide_eq_true hlv]
   exact ⟨_, _, rfl, by decide⟩
  ·rw [decide_eq_false hlv]
   show ∃ x t, tkA _ _ _ _ = x :: t ∧ _
   have hsg : args.length < 2 → ∃ x t, sgK op nm v b = x :: t ∧ Aw [91] (some x) = false := fun h2 => by
    obtain ⟨st, hst, q1, q2, q3, q4, q5, q6, q7, q8⟩ := node_parts hok.1
    rcases op_cases hst with rfl | rfl | rfl | rfl | rfl | rfl | rfl | rfl | rfl | rfl | rfl | rfl | rfl | rfl | rfl | rfl | rfl | rfl | rfl
    case inr.inr.inl => exact ⟨_, _, rfl, name_sees (q7 rfl) (.inr (by decide))⟩
    case inr.inr.inr.inr.inr.inr.inr.inr.inr.inr.inr.inr.inr.inr.inl =>
     by_cases hv : v = 0
     ·exact ⟨_, _, by simp only [sgK, if_pos hv]; rfl, by decide⟩
     ·exact ⟨_, _, by simp only [sgK, if_neg hv]; rfl, by decide⟩
    all_goals exact ⟨_, _, rfl, by decide⟩
   match args, hok, hsg with
   | [], _, hsg => exact hsg (by simp)
   | [a], _, hsg =>
    obtain ⟨x, t, e, hx⟩ := hsg (by simp)
    exact ⟨x, t ++ (tkF (BR op).first a ++ tkR (BR op).next (sgK op nm v b) []), by simp [tkA, e], hx⟩
   | a :: c :: l, hok, _ =>
    simp only [okL, Bool.and_eq_true] at hok
    obtain ⟨x, t, e, hx⟩ := tk_head m a (BR op).first (by simp at hm; omega) hok.2.1
    exact ⟨x, t ++ tkR (BR op).next (sgK op nm v b) (c :: l), by simp [tkA, e], hx⟩
theorem tk_open {f : Fml} (hok : okF f = true) (n : Nat) (r : List Tok) : Aw [91] ((BF (tkF n f) ++ r).head?.map bare) = false := by
 obtain ⟨x, t, e, hx⟩ := tk_head _ f n (Nat.le_refl _) hok
 rw [e]; exact hx
theorem andL_run : ∀ (l : List Fml), (∀ a ∈ l, RunsF a) → ∀ r : List Tok, StopL 2 r → RunN .andL (BF (tkR 3 [(3, [38])] l) ++ r) (.ok (l, r)) ∧ StopL 3 (BF (tkR 3 [(3, [38])] l) ++ r)
 | [], _, r, hr => ⟨Ch (hr.and (Nat.le_refl _)) (Run.ret _ _), hr.mono (by omega)⟩
 | a :: l, hl, r, hr => by
  obtain ⟨h1, h2⟩ := andL_run l (fun c hc => hl c (by simp [hc])) r hr
  refine ⟨?_, StopL.cons (by decide)⟩
  have := hl a (by simp) 3 _ (by omega) h2
  simp only [tkR, BF, List.map_append, List.append_assoc, List.map_cons, List.map_nil, List.cons_append, List.nil_append] at this ⊢
  exact DO rfl (Run.call this (Run.call h1 (Run.ret _ _)))
theorem orL_run : ∀ (l : List Fml), (∀ a ∈ l, RunsF a) → ∀ r : List Tok, StopL 1 r → RunN .orL (BF (tkR 2 [(3, [124])] l) ++ r) (.ok (l, r)) ∧ StopL 2 (BF (tkR 2 [(3, [124])] l) ++ r)
 | [], _, r, hr => ⟨Ch (hr.or (Nat.le_refl _)) (Run.ret _ _), hr.mono (by omega)⟩
 | a :: l, hl, r, hr => by
  obtain ⟨h1, h2⟩ := orL_run l (fun c hc => hl c (by simp [hc])) r hr
  refine ⟨?_, StopL.cons (by decide)⟩
  have := hl a (by simp) 2 _ (by omega) h2
  simp only [tkR, BF, List.map_append, List.append_assoc, List.map_cons, List.map_nil, List.cons_append, List.nil_append] at this ⊢
  exact DO rfl (Run.call this (Run.call h1 (Run.ret _ _)))
end Go.Proofs.YtfcgdbmoncnibaaGreatDoor
namespace Go.Proofs.YtfcgdbmoncnibaaGreatDoor
set_option linter.unusedVariables false
variable {mk : Prop} [MK mk]
theorem tkA_one (f n : Nat) (sg : List BT) (a : Fml) : tkA f n sg [a] = sg ++ tkF f a := by simp [tkA, tkR]
theorem tkA_two (f n : Nat) (sg : List BT) (a c : Fml) : tkA f n sg [a, c] = tkF f a ++ (sg ++ tkF n c) := by simp [tkA, tkR]
theorem tkA_more (f n : Nat) (sg : List BT) (a c : Fml) (l : List Fml) : tkA f n sg (a :: c :: l) = tkF f a ++ tkR n sg (c :: l) := by simp [tkA]
theorem BV (x y : List BT) (r : List Tok) : BF (x ++ y) ++ r = BF x ++ (BF y ++ r) := by simp [BF]
theorem one_of {l : List Fml} (h1 : 1 ≤ l.length) (h2 : l.length ≤ 1) : ∃ a, l = [a] := by
 match l, h1, h2 with
 | [a], _, _ => exact ⟨a, rfl⟩
theorem two_of {l : List Fml} (h1 : 2 ≤ l.length) (h2 : l.length ≤ 2) : ∃ a c, l = [a, c] := by
 match l, h1, h2 with
 | [a, c], _, _ => exact ⟨a, c, rfl⟩
theorem more_of {l : List Fml} (h1 : 2 ≤ l.length) : ∃ a c k, l = a :: c :: k := by
 match l, h1 with
 | a :: c :: k, _ => exact ⟨a, c, k, rfl⟩
set_option maxHeartbeats 1600000 in
theorem body_run {op v b : Int} {nm : List UInt8} {args : List Fml} (h : CK op nm v b args.length = true) (hok : okL args = true) (hl : ∀ a ∈ args, RunsF a) {r : List Tok} (hr : StopL (min (BR op).level 4) r) :
  RunL (min (BR op).level 4) (BF (tkA (BR op).first (BR op).next (sgK op nm v b) args) ++ r) (.mk op nm v b args) r := by
 obtain ⟨st, hst, q1, q2, q3, q4, q5, q6, q7, q8⟩ := node_parts h
 rcases op_cases hst with rfl | rfl | rfl | rfl | rfl | rfl | rfl | rfl | rfl | rfl | rfl | rfl | rfl | rfl | rfl | rfl | rfl | rfl | rfl <;> simp [Bn, styL, List.lookup] at hst <;> subst hst <;> simp only at q1 q2 q4 q6
 ·obtain rfl := List.length_eq_zero_iff.1 (Nat.le_zero.1 q2)
  obtain rfl := q8 (by decide)
  obtain rfl : v = 0 := by omega
  obtain rfl : b = 0 := by omega
  exact run_true r
 ·obtain rfl := List.length_eq_zero_iff.1 (Nat.le_zero.1 q2)
  obtain rfl := q8 (by decide)
  obtain rfl : v = 0 := by omega
  obtain rfl : b = 0 := by omega
  exact run_false r
 ·obtain rfl := List.length_eq_zero_iff.1 (Nat.le_zero.1 q2)
  obtain rfl : b = 0 := by omega
  exact run_is (q7 rfl) q3 hr
 ·obtain rfl : v = 0 := by omega
  obtain rfl : b = 0 := by omega
  obtain ⟨a, rfl⟩ := one_of q1 q2
  obtain rfl := q8 (by decide)
  rw [tkA_one, BV]
  have ha := hl a (by simp) 4 r (by omega) (hr.mono (by decide))
  have ho : okF a = true := CB hok a (by simp)
  exact un_pre (o := ⟨4, 0, 0⟩) (n := none) rfl (ix0 _ rfl) ha
 ·obtain ⟨a, c, l, rfl⟩ := more_of q1
  obtain rfl := q8 (by decide)
  obtain rfl : v = 0 := by omega
  obtain rfl : b = 0 := by omega
  rw [tkA_more, BV]
  obtain ⟨h1, h2⟩ := andL_run (c :: l) (fun d hd => hl d (by simp at hd; simp [hd])) r hr
  have ha := hl a (by simp) 3 _ (by omega) h2
  exact Run.call ha (Run.call h1 (Run.ret _ _))
 ·obtain ⟨a, c, l, rfl⟩ := more_of q1
  obtain rfl := q8 (by decide)
  obtain rfl : v = 0 := by omega
  obtain rfl : b = 0 := by omega
  rw [tkA_more, BV]
  obtain ⟨h1, h2⟩ := orL_run (c :: l) (fun d hd => hl d (by simp at hd; simp [hd])) r hr
  have ha := hl a (by simp) 2 _ (by omega) h2
  exact Run.call ha (Run.call h1 (Run.ret _ _))
 ·obtain ⟨a, c, rfl⟩ := two_of q1 q2
  obtain rfl := q8 (by decide)
  obtain rfl : v = 0 := by omega
  obtain rfl : b = 0 := by omega
  have hc := hl c (by simp) 0 r (by omega) hr
  rw [tkA_two, BV, BV]
  have ha := hl a (by simp) 1 (tkn (3, [45, 62]) :: (BF (tkF 0 c) ++ r)) (by omega) (StopL.cons (by decide))
  exact Run.call ha (DO rfl (Run.call hc (Run.ret _ _)))
 ·obtain rfl : v = 0 := by omega
  obtain rfl : b = 0 := by omega
  obtain ⟨a, rfl⟩ := one_of q1 q2
  obtain rfl := q8 (by decide)
  rw [tkA_one, BV]
  have ha := hl a (by simp) 4 r (by omega) (hr.mono (by decide))
  have ho : okF a = true := CB hok a (by simp)
  exact un_pre (o := ⟨8, 0, 0⟩) (n := none) rfl (ix0 _ rfl) ha
 ·obtain ⟨a, c, rfl⟩ := two_of q1 q2
  obtain rfl := q8 (by decide)
  obtain rfl : v = 0 := by omega
  obtain rfl : b = 0 := by omega
  have hc := hl c (by simp) 3 r (by omega) (hr.mono (by decide))
  have ho : okF c = true := CB hok c (by simp)
  rw [tkA_two, BV, BV]
  exact un_bin (hl a (by simp) 4 _ (by omega) (StopL.cons (x := tkn (1, [85])) (by decide))) rfl (ix0 (o := ⟨9, 0, 0⟩) _ rfl) hc
 ·obtain ⟨a, c, rfl⟩ := two_of q1 q2
  obtain rfl := q8 (by decide)
  obtain rfl : v = 0 := by omega
  obtain rfl : b = 0 := by omega
  have hc := hl c (by simp) 3 r (by omega) (hr.mono (by decide))
  have ho : okF c = true := CB hok c (by simp)
  rw [tkA_two, BV, BV]
  exact un_bin (hl a (by simp) 4 _ (by omega) (StopL.cons (x := tkn (1, [82])) (by decide))) rfl (ix0 (o := ⟨10, 0, 0⟩) _ rfl) hc
 ·obtain rfl : v = 0 := by omega
  obtain rfl : b = 0 := by omega
  obtain ⟨a, rfl⟩ := one_of q1 q2
  obtain rfl := q8 (by decide)
  rw [tkA_one, BV]
  have ha := hl a (by simp) 4 r (by omega) (hr.mono (by decide))
  have ho : okF a = true := CB hok a (by simp)
  exact un_pre (o := ⟨11, 13, 0⟩) (n := none) rfl (ixNo (tk_open ho 4 r)) ha
 ·obtain rfl : v = 0 := by omega
  obtain rfl : b = 0 := by omega
  obtain ⟨a, rfl⟩ := one_of q1 q2
  obtain rfl := q8 (by decide)
  rw [tkA_one, BV]
  have ha := hl a (by simp) 4 r (by omega) (hr.mono (by decide))
  have ho : okF a = true := CB hok a (by simp)
  exact un_pre (o := ⟨12, 14, 0⟩) (n := none) rfl (ixNo (tk_open ho 4 r)) ha
 ·obtain rfl : v = 0 := by omega
  obtain ⟨a, rfl⟩ := one_of q1 q2
  obtain rfl := q8 (by decide)
  rw [tkA_one, BV]
  have ha := hl a (by simp) 4 r (by omega) (hr.mono (by decide))
  have ho : okF a = true := CB hok a (by simp)
  exact un_pre (o := ⟨11, 13, 0⟩) (n := some b) rfl (ixYes (by decide) q5) ha
 ·obtain rfl : v = 0 := by omega
  obtain ⟨a, rfl⟩ := one_of q1 q2
  obtain rfl := q8 (by decide)
  rw [tkA_one, BV]
  have ha := hl a (by simp) 4 r (by omega) (hr.mono (by decide))
  have ho : okF a = true := CB hok a (by simp)
  exact un_pre (o := ⟨12, 14, 0⟩) (n := some b) rfl (ixYes (by decide) q5) ha
 ·obtain rfl : b = 0 := by omega
  rcases (show v = 0 ∨ v = 1 by omega) with rfl | rfl
  ·obtain ⟨a, rfl⟩ := one_of q1 q2
   obtain rfl := q8 (by decide)
   rw [tkA_one, BV]
   have ha := hl a (by simp) 4 r (by omega) (hr.mono (by decide))
   have ho : okF a = true := CB hok a (by simp)
   exact un_pre (o := ⟨15, 0, 0⟩) (n := none) rfl (ix0 _ rfl) ha
  ·obtain ⟨a, rfl⟩ := one_of q1 q2
   obtain rfl := q8 (by decide)
   rw [tkA_one, BV]
   have ha := hl a (by simp) 4 r (by omega) (hr.mono (by decide))
   have ho : okF a = true := CB hok a (by simp)
   exact un_pre (o := ⟨15, 0, 1⟩) (n := none) rfl (ix0 _ rfl) ha
 ·obtain ⟨a, c, rfl⟩ := two_of q1 q2
  obtain rfl := q8 (by decide)
  obtain rfl : b = 0 := by omega
  by_cases hv : v = 0
  ·subst hv
   have hc := hl c (by simp) 3 r (by omega) (hr.mono (by decide))
   have ho : okF c = true := CB hok c (by simp)
   rw [tkA_two, BV, BV]
   exact un_bin (hl a (by simp) 4 _ (by omega) (StopL.cons (x := tkn (1, [83])) (by decide))) rfl (ixNo (o := ⟨16, 16, 0⟩) (tk_open ho 3 r)) hc
  ·simp only [sgK, if_neg hv]
   have hc := hl c (by simp) 3 r (by omega) (hr.mono (by decide))
   have ho : okF c = true := CB hok c (by simp)
   rw [tkA_two, BV, BV]
   exact un_bin (hl a (by simp) 4 _ (by omega) (StopL.cons (x := tkn (1, [83])) (by decide))) rfl (ixYes (o := ⟨16, 16, 0⟩) (by decide) q3) hc
 ·obtain ⟨a, c, rfl⟩ := two_of q1 q2
  obtain rfl := q8 (by decide)
  obtain rfl : b = 0 := by omega
  by_cases hv : v = 1
  ·subst hv
   have hc := hl c (by simp) 3 r (by omega) (hr.mono (by decide))
   have ho : okF c = true := CB hok c (by simp)
   rw [tkA_two, BV, BV]
   exact un_bin (hl a (by simp) 4 _ (by omega) (StopL.cons (x := tkn (1, [84])) (by decide))) rfl (ixNo (o := ⟨17, 17, 1⟩) (tk_open ho 3 r)) hc
  ·simp only [sgK, if_neg hv]
   have hc := hl c (by simp) 3 r (by omega) (hr.mono (by decide))
   have ho : okF c = true := CB hok c (by simp)
   rw [tkA_two, BV, BV]
   exact un_bin (hl a (by simp) 4 _ (by omega) (StopL.cons (x := tkn (1, [84])) (by decide))) rfl (ixYes (o := ⟨17, 17, 1⟩) (by decide) q3) hc
 ·obtain rfl : v = 0 := by omega
  obtain rfl : b = 0 := by omega
  obtain ⟨a, rfl⟩ := one_of q1 q2
  obtain rfl := q8 (by decide)
  rw [tkA_one, BV]
  have ha := hl a (by simp) 4 r (by omega) (hr.mono (by decide))
  have ho : okF a = true := CB hok a (by simp)
  exact un_pre (o := ⟨18, 0, 0⟩) (n := none) rfl (ix0 _ rfl) ha
 ·obtain rfl : v = 0 := by omega
  obtain rfl : b = 0 := by omega
  obtain ⟨a, rfl⟩ := one_of q1 q2
  obtain rfl := q8 (by decide)
  rw [tkA_one, BV]
  have ha := hl a (by simp) 4 r (by omega) (hr.mono (by decide))
  have ho : okF a = true := CB hok a (by simp)
  exact un_pre (o := ⟨19, 0, 0⟩) (n := none) rfl (ix0 _ rfl) ha
theorem runsF : ∀ (m : Nat) (f : Fml), SizeOf.sizeOf f ≤ m → okF f = true → RunsF f
 | 0, f, hm, _ => by cases f; simp at hm
 | m + 1, .mk op nm v b args, hm, hok => by
  simp only [okF, Bool.and_eq_true] at hok
  have hl : ∀ a ∈ args, RunsF a := fun a ha => runsF m a (by have := List.sizeOf_lt_of_mem ha; simp at hm; omega) (CB hok.2 a ha)
  intro n r hn hr
  simp only [tkF]
  by_cases hlv : (BR op).level < n
  ·rw [decide_eq_true hlv]
   have h0 := body_run hok.1 hok.2 hl (StopL.nil _)
   have h1 := climb (min (BR op).level 4) 0 (by omega) (by rw [Nat.zero_add]; exact h0) (StopL.nil 0)
   have h2 : RunN .unary _ _ := paren (x := tkn (3, [40])) (y := tkn (3, [41])) r rfl rfl h1
   have e : BF (wrapK true (tkA (BR op).first (BR op).next (sgK op nm v b) args)) ++ r = tkn (3, [40]) :: (BF (tkA (BR op).first (BR op).next (sgK op nm v b) args) ++ [] ++ tkn (3, [41]) :: r) := by simp [BF, wrapK]
   rw [e]
   refine climb (4 - n) n (by omega) ?_ hr
   rw [show n + (4 - n) = 4 by omega]
   exact h2
  ·rw [decide_eq_false hlv]
   have h0 := body_run hok.1 hok.2 hl (r := r) (hr.mono (by omega))
   refine climb (min (BR op).level 4 - n) n (by omega) ?_ hr
   rw [show n + (min (BR op).level 4 - n) = min (BR op).level 4 by omega]
   exact h0
theorem tk_run {f : Fml} (hok : okF f = true) : RunN .formula (BF (tkF 0 f)) (.ok (f, [])) := by
 have := runsF _ f (Nat.le_refl _) hok 0 [] (by omega) (StopL.nil 0)
 rw [List.append_nil] at this
 exact this
end Go.Proofs.YtfcgdbmoncnibaaGreatDoor
namespace Go.Proofs.YtfcgdbmoncnibaaGreatDoor
set_option linter.unusedVariables false
variable {mk : Prop} [MK mk]
mutual
def oF : Nat → Fml → Nat
 | n, .mk op nm v b args => (if (BR op).level < n then 1 else 0) + oA (BR op).first (BR op).next args
def oA : Nat → Nat → List Fml → Nat
 | _, _, [] => 0
 | first, next, a :: l => oF first a + oR next l
def oR : Nat → List Fml → Nat
 | _, [] => 0
 | next, a :: l => oF next a + oR next l
end
theorem oF_mono {n m : Nat} (h : n ≤ m) (f : Fml) : oF n f ≤ oF m f := by
 cases f with
 | mk op nm v b args =>
  simp only [oF]
  split <;> split <;> omega
theorem oF_wrap (m : Nat) (f : Fml) : oF m f ≤ oF 0 f + 1 := by
 cases f with
 | mk op nm v b args =>
  simp only [oF]
  split <;> split <;> omega
def cnt (l : List Tok) : Nat := l.countP fun x => decide (x.text = [40])
theorem cnt_cons (x : Tok) (l : List Tok) : cnt (x :: l) = cnt l + if x.text = [40] then 1 else 0 := by
 unfold cnt
 rw [List.countP_cons]
 by_cases h : x.text = [40] <;> simp [h]
theorem cnt_suf {l l' : List Tok} (h : l' <:+ l) : cnt l' ≤ cnt l := by
 obtain ⟨t, rfl⟩ := h
 unfold cnt
 rw [List.countP_append]; omega
theorem Au {n : Nat} {α : Type} {nt : NT} {k : nt.T → G α} {l l' : List Tok} {b : α} (h : evG (evN n) (.call nt k) l = some (.ok (b, l'))) : ∃ v l1, evN n nt l = some (.ok (v, l1)) ∧ evG (evN n) (k v) l1 = some (.ok (b, l')) := by
 simp only [evG] at h
 cases hf : evN n nt l with
 | none => rw [hf] at h; cases h
 | some x =>
  rw [hf] at h
  cases x with
  | error e => cases h
  | ok y => exact ⟨y.1, y.2, rfl, h⟩
theorem Ag {n : Nat} {α β : Type} {p : G α} {q : α → G β} {l l' : List Tok} {b : β} (h : evG (evN n) (p.bind q) l = some (.ok (b, l'))) : ∃ a l1, evG (evN n) p l = some (.ok (a, l1)) ∧ evG (evN n) (q a) l1 = some (.ok (b, l')) := by
 rw [evG_bind] at h
 cases hf : evG (evN n) p l with
 | none => rw [hf] at h; cases h
 | some x =>
  rw [hf] at h
  cases x with
  | error e => cases h
  | ok y => exact ⟨y.1, y.2, rfl, h⟩
theorem An {n : Nat} {α : Type} {a b : α} {l l' : List Tok} (h : evG (evN n) (.ret a) l = some (.ok (b, l'))) : b = a ∧ l' = l := by
 simp only [evG, Option.some.injEq, Except.ok.injEq, Prod.mk.injEq] at h
 exact ⟨h.1.symm, h.2.symm⟩
theorem Be {n : Nat} {t : List UInt8} {l l' : List Tok} {b : Bool} (h : evG (evN n) (Ah t) l = some (.ok (b, l'))) : (b = true ∧ ∃ x, l = x :: l' ∧ x.text = t) ∨ (b = false ∧ l' = l) := by
 rcases Di ⟨n, h⟩ with ⟨hb, _, hs, rfl⟩ | ⟨hb, rfl, _⟩
 ·cases l with
  | nil => simp [Aw] at hs
  | cons x l =>
   refine .inl ⟨hb, x, rfl, ?_⟩
   simp [Aw, bare] at hs
   exact hs.2
 ·exact .inr ⟨hb, rfl⟩
theorem A9 {n : Nat} {α : Type} {p : G α} {l l' : List Tok} {b : α} (h : evG (evN n) p l = some (.ok (b, l'))) : l' <:+ l := by
 have : Run p l (.ok (b, l')) := ⟨n, h⟩
 exact this.suffix
theorem ev_name {n : Nat} {l l' : List Tok} {s : List UInt8} (h : evG (evN n) nameG l = some (.ok (s, l'))) : Bh s = true := by
 simp only [nameG, evG] at h
 cases l with
 | nil => simp [evG] at h
 | cons x l =>
  simp only [List.head?_cons, Option.map_some] at h
  cases hb : (decide ((bare x).1 = 1) && Bh (bare x).2) with
  | false => rw [hb] at h; simp [evG] at h
  | true =>
   rw [hb] at h
   simp only [if_true, evG] at h
   obtain ⟨rfl, _⟩ := An (n := n) h
   simp only [Bool.and_eq_true] at hb
   exact hb.2
def NumsOk (l : List Tok) : Prop := ∀ x ∈ l, x.kind = 2 → 0 ≤ DV x.text ∧ DV x.text ≤ 9999
theorem NumsOk.suf {l l' : List Tok} (h : NumsOk l) (hs : l' <:+ l) : NumsOk l' := fun x hx => h x (hs.subset hx)
theorem ev_number {n : Nat} {l l' : List Tok} {v : Int} (h : evG (evN n) numberG l = some (.ok (v, l'))) (hl : NumsOk l) : 0 ≤ v ∧ v ≤ 9999 := by
 simp only [numberG, evG] at h
 cases l with
 | nil => simp [evG] at h
 | cons x l =>
  simp only [List.head?_cons, Option.map_some] at h
  by_cases hb : (bare x).1 = 2
  ·rw [decide_eq_true hb] at h
   simp only [if_true, evG] at h
   obtain ⟨rfl, _⟩ := An (n := n) h
   exact hl x (by simp) hb
  ·rw [decide_eq_false hb] at h
   simp [evG] at h
theorem ev_take {n : Nat} {tab : List (List UInt8 × Opr)} {l l' : List Tok} {o : Option Opr} (h : evG (evN n) (takeG tab) l = some (.ok (o, l'))) : (∃ s p, o = some p ∧ tab.lookup s = some p) ∨ (o = none ∧ l' = l) := by
 simp only [takeG, evG] at h
 cases l with
 | nil =>
  obtain ⟨rfl, rfl⟩ := An (n := n) h
  exact .inr ⟨rfl, rfl⟩
 | cons x l =>
  simp only [List.head?_cons, Option.map_some] at h
  cases hk : tab.lookup (bare x).2 with
  | none =>
   rw [hk] at h
   obtain ⟨rfl, rfl⟩ := An (n := n) h
   exact .inr ⟨rfl, rfl⟩
  | some p =>
   rw [hk] at h
   simp only [evG] at h
   obtain ⟨rfl, _⟩ := An (n := n) h
   exact .inl ⟨_, p, rfl, hk⟩
theorem ev_index {n : Nat} {o : Opr} {l l' : List Tok} {v : Option Int} (h : evG (evN n) (B8 o) l = some (.ok (v, l'))) (hl : NumsOk l) : (v = none ∨ o.indexed ≠ 0 ∧ ∃ k, v = some k ∧ 0 ≤ k ∧ k ≤ 9999) := by
 unfold B8 at h
 split at h
 ·exact .inl (An h).1
 ·rename_i ho
  obtain ⟨b, l1, h1, h2⟩ := Ag h
  have s1 := A9 h1
  rcases Be h1 with ⟨rfl, _⟩ | ⟨rfl, _⟩
  ·obtain ⟨k, l2, h3, h4⟩ := Ag (show evG (evN n) (numberG.bind _) l1 = _ from h2)
   obtain ⟨_, l3, _, h5⟩ := Ag h4
   obtain ⟨rfl, _⟩ := An h5
   exact .inr ⟨ho, k, rfl, ev_number h3 (hl.suf s1)⟩
  ·exact .inl (An (show evG (evN n) (.ret none) l1 = _ from h2)).1
def reqP (r : Rqm) : Prop := Bh r.name = true ∧ (r.kind = 1 ∨ r.kind = 2) ∧ okF r.formula = true
def reqQ (r : Rqm) : Prop := Bh r.part = true ∧ reqP r
def sigP (x : Sgn) : Prop := Bh x.name = true ∧ 0 ≤ x.size ∧ x.size ≤ 9999
def Phi : (nt : NT) → nt.T → List Tok → List Tok → Prop
 | .formula, f, l, l' => okF f = true ∧ oF 0 f + cnt l' ≤ cnt l
 | .orN, f, l, l' => okF f = true ∧ oF 1 f + cnt l' ≤ cnt l
 | .andN, f, l, l' => okF f = true ∧ oF 2 f + cnt l' ≤ cnt l
 | .untilN, f, l, l' => okF f = true ∧ oF 3 f + cnt l' ≤ cnt l
 | .unary, f, l, l' => okF f = true ∧ oF 4 f + cnt l' ≤ cnt l
 | .primary, f, l, l' => okF f = true ∧ oF 4 f + cnt l' ≤ cnt l
 | .orL, fs, l, l' => okL fs = true ∧ oR 2 fs + cnt l' ≤ cnt l ∧ fs.length + l'.length ≤ l.length
 | .andL, fs, l, l' => okL fs = true ∧ oR 3 fs + cnt l' ≤ cnt l ∧ fs.length + l'.length ≤ l.length
 | .req, r, _, _ => r.part = [] ∧ reqP r
 | .line, r, _, _ => r.part = [] ∧ reqP r
 | .lines, rs, _, _ => ∀ r ∈ rs, reqP r
 | .part, rs, _, _ => ∀ r ∈ rs, reqQ r
 | .parts, ps, _, _ => ∀ rs ∈ ps, ∀ r ∈ rs, reqQ r
 | .signal, x, _, _ => sigP x
 | .sigs, xs, _, _ => ∀ x ∈ xs, sigP x
 | .spec, s, _, _ => (∀ x ∈ s.sigs, sigP x) ∧ ∀ r ∈ s.reqs, reqQ r
 | .edit, e, _, _ => (e.kind = 2 ∧ e.req.part = [] ∧ e.req.kind = 0 ∧ e.req.formula = DD ∧ Bh e.req.name = true) ∨ ((e.kind = 1 ∨ e.kind = 3) ∧ reqQ e.req)
theorem DN {op v b : Int} {nm : List UInt8} {l : List Fml} (h : CK op nm v b l.length = true) (hl : okL l = true) : okF (.mk op nm v b l) = true := by
 simp only [okF, h, hl, Bool.and_self]
theorem node_many {op : Int} (ho : op = 5 ∨ op = 6) {n : Nat} (h1 : 2 ≤ n) (h2 : n ≤ 3000) : CK op [] 0 0 n = true := by
 rcases ho with rfl | rfl <;> simp [CK, Bn, styL, List.lookup, many] <;> omega
theorem evN_suf {n : Nat} {nt : NT} {l l' : List Tok} {v : nt.T} (h : evN n nt l = some (.ok (v, l'))) : l' <:+ l := evN_suffix n nt l _ h
theorem lookup_val {β : Type} {a : List UInt8} {b : β} : ∀ {l : List (List UInt8 × β)}, l.lookup a = some b → b ∈ l.map (·.2)
 | [], h => by cases h
 | (k, v) :: l, h => by
  rw [List.lookup_cons] at h
  by_cases hk : a = k
  ·rw [show (a == k) = true by simpa using hk] at h
   cases h; simp
  ·rw [show (a == k) = false by simpa using hk] at h
   have := lookup_val (l := l) h
   simp only [List.map_cons, List.mem_cons]
   exact .inr this
theorem inf_val {s : List UInt8} {p : Opr} (h : infixT.lookup s = some p) : p = ⟨9, 0, 0⟩ ∨ p = ⟨10, 0, 0⟩ ∨ p = ⟨16, 16, 0⟩ ∨ p = ⟨17, 17, 1⟩ := by simpa [infixT] using lookup_val h
theorem pre_val {s : List UInt8} {p : Opr} (h : prefixT.lookup s = some p) : p = ⟨4, 0, 0⟩ ∨ p = ⟨8, 0, 0⟩ ∨ p = ⟨15, 0, 0⟩ ∨ p = ⟨15, 0, 1⟩ ∨ p = ⟨18, 0, 0⟩ ∨ p = ⟨19, 0, 0⟩ ∨ p = ⟨11, 13, 0⟩ ∨ p = ⟨12, 14, 0⟩ := by simpa [prefixT] using lookup_val h
theorem inf_node {p : Opr} {k : Option Int} {a c : Fml} (hp : p = ⟨9, 0, 0⟩ ∨ p = ⟨10, 0, 0⟩ ∨ p = ⟨16, 16, 0⟩ ∨ p = ⟨17, 17, 1⟩) (hk : k = none ∨ p.indexed ≠ 0 ∧ ∃ j, k = some j ∧ 0 ≤ j ∧ j ≤ 9999) (oa : okF a = true) (oc : okF c = true) :
  okF (.mk p.op [] (k.getD p.val) 0 [a, c]) = true ∧ oF 3 (.mk p.op [] (k.getD p.val) 0 [a, c]) = oF 4 a + oF 3 c := by
 have hl : okL [a, c] = true := by simp [okL, oa, oc]
 rcases hp with rfl | rfl | rfl | rfl <;> rcases hk with rfl | ⟨h0, j, rfl, h1, h2⟩
 ·exact ⟨DN rfl hl, by simp [oF, oA, oR, BR, Bn, styL, List.lookup]⟩
 ·exact absurd rfl h0
 ·exact ⟨DN rfl hl, by simp [oF, oA, oR, BR, Bn, styL, List.lookup]⟩
 ·exact absurd rfl h0
 ·exact ⟨DN rfl hl, by simp [oF, oA, oR, BR, Bn, styL, List.lookup]⟩
 ·exact ⟨DN (by simp [CK, Bn, styL, List.lookup]; omega) hl, by simp [oF, oA, oR, BR, Bn, styL, List.lookup]⟩
 ·exact ⟨DN rfl hl, by simp [oF, oA, oR, BR, Bn, styL, List.lookup]⟩
 ·exact ⟨DN (by simp [CK, Bn, styL, List.lookup]; omega) hl, by simp [oF, oA, oR, BR, Bn, styL, List.lookup]⟩
def prfxF (p : Opr) (k : Option Int) (a : Fml) : Fml := match k with
 | some n => ⟨p.indexed, [], p.val, n, [a]⟩
 | none => ⟨p.op, [], p.val, 0, [a]⟩
set_option maxHeartbeats 1600000 in
theorem pre_node {p : Opr} {k : Option Int} {a : Fml} (hp : p = ⟨4, 0, 0⟩ ∨ p = ⟨8, 0, 0⟩ ∨ p = ⟨15, 0, 0⟩ ∨ p = ⟨15, 0, 1⟩ ∨ p = ⟨18, 0, 0⟩ ∨ p = ⟨19, 0, 0⟩ ∨ p = ⟨11, 13, 0⟩ ∨ p = ⟨12, 14, 0⟩) (hk : k = none ∨ p.indexed ≠ 0 ∧ ∃ j, k = some j ∧ 0 ≤ j ∧ j ≤ 9999) (oa : okF a = true) {f : Fml}
  (hf : f = prfxF p k a) : okF f = true ∧ oF 4 f = oF 4 a := by
 have hl : okL [a] = true := by simp [okL, oa]
 subst hf
 rcases hk with rfl | ⟨h0, j, rfl, h1, h2⟩
 ·show okF (.mk p.op [] p.val 0 [a]) = true ∧ oF 4 (.mk p.op [] p.val 0 [a]) = oF 4 a
  rcases hp with rfl | rfl | rfl | rfl | rfl | rfl | rfl | rfl <;> exact ⟨DN rfl hl, by simp [oF, oA, oR, BR, Bn, styL, List.lookup]⟩
 ·show okF (.mk p.indexed [] p.val j [a]) = true ∧ oF 4 (.mk p.indexed [] p.val j [a]) = oF 4 a
  rcases hp with rfl | rfl | rfl | rfl | rfl | rfl | rfl | rfl
  ·exact absurd rfl h0
  ·exact absurd rfl h0
  ·exact absurd rfl h0
  ·exact absurd rfl h0
  ·exact absurd rfl h0
  ·exact absurd rfl h0
  ·exact ⟨DN (by simp [CK, Bn, styL, List.lookup]; omega) hl, by simp [oF, oA, oR, BR, Bn, styL, List.lookup]⟩
  ·exact ⟨DN (by simp [CK, Bn, styL, List.lookup]; omega) hl, by simp [oF, oA, oR, BR, Bn, styL, List.lookup]⟩
theorem ev_expect {n : Nat} {t : List UInt8} {l l' : List Tok} {u : Unit} (h : evG (evN n) (A1 t) l = some (.ok (u, l'))) : cnt l' ≤ cnt l := cnt_suf (A9 h)
theorem is_ok {s : List UInt8} {k : Int} (hs : Bh s = true) (h1 : 0 ≤ k) (h2 : k ≤ 9999) : okF (isF s k) = true := by
 refine DN ?_ rfl
 simp [CK, Bn, styL, List.lookup, hs]; omega
theorem is_o {s : List UInt8} {k : Int} (m : Nat) (hm : m ≤ 5) : oF m (isF s k) = 0 := by
 simp [isF, oF, oA, BR, Bn, styL, List.lookup]; omega
set_option maxHeartbeats 3200000 in
theorem evN_phi : ∀ (n : Nat) (nt : NT) (l : List Tok) (v : nt.T) (l' : List Tok), NumsOk l → l.length ≤ 2000 → evN n nt l = some (.ok (v, l')) → Phi nt v l l'
 | 0, _, _, _, _, _, _, h => by cases h
 | n + 1, nt, l, v, l', hl, hc, h => by
  have ih := evN_phi n
  cases nt with
  | formula =>
   have hA : evG (evN n) (.call .orN fun a => (Ah [45, 62]).bind fun b => if b then .call .formula fun c => .ret ⟨7, [], 0, 0, [a, c]⟩ else .ret a) l = some (.ok (v, l')) := h
   obtain ⟨a, l1, hq1, hB⟩ := Au hA
   obtain ⟨oa, ca⟩ := ih .orN _ _ _ hl hc hq1
   have s1 := evN_suf hq1
   obtain ⟨b, l2, hb, hC⟩ := Ag hB
   rcases Be hb with ⟨rfl, x, rfl, _⟩ | ⟨rfl, rfl⟩
   ·obtain ⟨c, l3, hq2, hD⟩ := Au (show evG (evN n) (.call .formula fun c => .ret ⟨7, [], 0, 0, [a, c]⟩) l2 = some (.ok (v, l')) from hC)
    have s2 : l2 <:+ l := (List.suffix_cons x l2).trans s1
    obtain ⟨oc, cc⟩ := ih .formula _ _ _ (hl.suf s2) (by have := s2.length_le; omega) hq2
    obtain ⟨rfl, rfl⟩ := An hD
    rw [cnt_cons] at ca
    refine ⟨DN rfl (by simp only [okL, Bool.and_eq_true]; exact ⟨oa, oc, trivial⟩), ?_⟩
    have e : oF 0 (.mk 7 [] 0 0 [a, c]) = oF 1 a + oF 0 c := by simp [oF, oA, oR, BR, Bn, styL, List.lookup]
    show oF 0 (.mk 7 [] 0 0 [a, c]) + _ ≤ _
    rw [e]; omega
   ·obtain ⟨rfl, rfl⟩ := An (show evG (evN n) (.ret a) l2 = some (.ok (v, l')) from hC)
    have := oF_mono (show 0 ≤ 1 by omega) v
    exact ⟨oa, by omega⟩
  | orN =>
   have hA : evG (evN n) (.call .andN fun a => .call .orL fun l => .ret (nodeF 6 (a :: l))) l = some (.ok (v, l')) := h
   obtain ⟨a, l1, hq1, hB⟩ := Au hA
   obtain ⟨oa, ca⟩ := ih .andN _ _ _ hl hc hq1
   have s1 := evN_suf hq1
   obtain ⟨k, l2, hq2, hC⟩ := Au hB
   obtain ⟨ok, ck, nk⟩ := ih .orL _ _ _ (hl.suf s1) (by have := s1.length_le; omega) hq2
   obtain ⟨rfl, rfl⟩ := An hC
   cases k with
   | nil =>
    show okF a = true ∧ _
    refine ⟨oa, ?_⟩
    have := oF_mono (show 1 ≤ 2 by omega) a
    simp only [oR] at ck
    show oF 1 a + _ ≤ _
    omega
   | cons d k =>
    have := s1.length_le
    have e : oF 1 (.mk 6 [] 0 0 (a :: d :: k)) = oF 2 a + oR 2 (d :: k) := by simp [oF, oA, BR, Bn, styL, List.lookup]
    refine ⟨DN (node_many (.inr rfl) (by simp) (by simp at nk ⊢; omega)) (by simp only [okL, Bool.and_eq_true] at ok ⊢; exact ⟨oa, ok⟩), ?_⟩
    show oF 1 (.mk 6 [] 0 0 (a :: d :: k)) + _ ≤ _
    rw [e]; omega
  | orL =>
   have hA : evG (evN n) ((Ah [124]).bind fun b => if b then .call .andN fun a => .call .orL fun l => .ret (a :: l) else .ret []) l = some (.ok (v, l')) := h
   obtain ⟨b, l2, hb, hB⟩ := Ag hA
   rcases Be hb with ⟨rfl, x, rfl, _⟩ | ⟨rfl, rfl⟩
   ·obtain ⟨a, l3, hq1, hC⟩ := Au (show evG (evN n) (.call .andN fun a => .call .orL fun l => .ret (a :: l)) l2 = some (.ok (v, l')) from hB)
    have s2 : l2 <:+ x :: l2 := List.suffix_cons x l2
    obtain ⟨oa, ca⟩ := ih .andN _ _ _ (hl.suf s2) (by have := s2.length_le; omega) hq1
    have s3 := evN_suf hq1
    obtain ⟨k, l4, hq2, hD⟩ := Au hC
    obtain ⟨ok, ck, nk⟩ := ih .orL _ _ _ ((hl.suf s2).suf s3) (by have := s2.length_le; have := s3.length_le; omega) hq2
    obtain ⟨rfl, rfl⟩ := An hD
    have := s3.length_le
    refine ⟨by simp only [okL, Bool.and_eq_true]; exact ⟨oa, ok⟩, ?_, by simp only [List.length_cons]; omega⟩
    rw [cnt_cons]
    simp only [oR]; omega
   ·obtain ⟨rfl, rfl⟩ := An (show evG (evN n) (.ret []) l2 = some (.ok (v, l')) from hB)
    exact ⟨rfl, by simp [oR], by simp⟩
  | andN =>
   have hA : evG (evN n) (.call .untilN fun a => .call .andL fun l => .ret (nodeF 5 (a :: l))) l = some (.ok (v, l')) := h
   obtain ⟨a, l1, hq1, hB⟩ := Au hA
   obtain ⟨oa, ca⟩ := ih .untilN _ _ _ hl hc hq1
   have s1 := evN_suf hq1
   obtain ⟨k, l2, hq2, hC⟩ := Au hB
   obtain ⟨ok, ck, nk⟩ := ih .andL _ _ _ (hl.suf s1) (by have := s1.length_le; omega) hq2
   obtain ⟨rfl, rfl⟩ := An hC
   cases k with
   | nil =>
    show okF a = true ∧ _
    refine ⟨oa, ?_⟩
    have := oF_mono (show 2 ≤ 3 by omega) a
    simp only [oR] at ck
    show oF 2 a + _ ≤ _
    omega
   | cons d k =>
    have := s1.length_le
    have e : oF 2 (.mk 5 [] 0 0 (a :: d :: k)) = oF 3 a + oR 3 (d :: k) := by simp [oF, oA, BR, Bn, styL, List.lookup]
    refine ⟨DN (node_many (.inl rfl) (by simp) (by simp at nk ⊢; omega)) (by simp only [okL, Bool.and_eq_true] at ok ⊢; exact ⟨oa, ok⟩), ?_⟩
    show oF 2 (.mk 5 [] 0 0 (a :: d :: k)) + _ ≤ _
    rw [e]; omega
  | andL =>
   have hA : evG (evN n) ((Ah [38]).bind fun b => if b then .call .untilN fun a => .call .andL fun l => .ret (a :: l) else .ret []) l = some (.ok (v, l')) := h
   obtain ⟨b, l2, hb, hB⟩ := Ag hA
   rcases Be hb with ⟨rfl, x, rfl, _⟩ | ⟨rfl, rfl⟩
   ·obtain ⟨a, l3, hq1, hC⟩ := Au (show evG (evN n) (.call .untilN fun a => .call .andL fun l => .ret (a :: l)) l2 = some (.ok (v, l')) from hB)
    have s2 : l2 <:+ x :: l2 := List.suffix_cons x l2
    obtain ⟨oa, ca⟩ := ih .untilN _ _ _ (hl.suf s2) (by have := s2.length_le; omega) hq1
    have s3 := evN_suf hq1
    obtain ⟨k, l4, hq2, hD⟩ := Au hC
    obtain ⟨ok, ck, nk⟩ := ih .andL _ _ _ ((hl.suf s2).suf s3) (by have := s2.length_le; have := s3.length_le; omega) hq2
    obtain ⟨rfl, rfl⟩ := An hD
    have := s3.length_le
    refine ⟨by simp only [okL, Bool.and_eq_true]; exact ⟨oa, ok⟩, ?_, by simp only [List.length_cons]; omega⟩
    rw [cnt_cons]
    simp only [oR]; omega
   ·obtain ⟨rfl, rfl⟩ := An (show evG (evN n) (.ret []) l2 = some (.ok (v, l')) from hB)
    exact ⟨rfl, by simp [oR], by simp⟩
  | untilN =>
   have hA : evG (evN n) (.call .unary fun a => (takeG infixT).bind fun
    | none => .ret a
    | some o => (B8 o).bind fun n => .call .untilN fun c => .ret ⟨o.op, [], n.getD o.val, 0, [a, c]⟩) l = some (.ok (v, l')) := h
   obtain ⟨a, l1, hq1, hB⟩ := Au hA
   obtain ⟨oa, ca⟩ := ih .unary _ _ _ hl hc hq1
   have s1 := evN_suf hq1
   obtain ⟨o, l2, hb, hC⟩ := Ag hB
   have s2 := (A9 hb).trans s1
   have c2 := cnt_suf (A9 hb)
   rcases ev_take hb with ⟨w, p, rfl, hp⟩ | ⟨rfl, rfl⟩
   ·obtain ⟨k, l3, hk, hD⟩ := Ag (show evG (evN n) ((B8 p).bind fun n => .call .untilN fun c => .ret ⟨p.op, [], n.getD p.val, 0, [a, c]⟩) l2 = some (.ok (v, l')) from hC)
    have s3 := (A9 hk).trans s2
    have c3 := cnt_suf (A9 hk)
    obtain ⟨c, l4, hq2, hE⟩ := Au hD
    obtain ⟨oc, cc⟩ := ih .untilN _ _ _ (hl.suf s3) (by have := s3.length_le; omega) hq2
    obtain ⟨rfl, rfl⟩ := An hE
    obtain ⟨i1, i2⟩ := inf_node (inf_val hp) (ev_index hk (hl.suf s2)) oa oc
    refine ⟨i1, ?_⟩
    show oF 3 (.mk p.op [] (k.getD p.val) 0 [a, c]) + _ ≤ _
    rw [i2]; omega
   ·obtain ⟨rfl, rfl⟩ := An (show evG (evN n) (.ret a) l2 = some (.ok (v, l')) from hC)
    have := oF_mono (show 3 ≤ 4 by omega) v
    exact ⟨oa, by omega⟩
  | unary =>
   have hA : evG (evN n) ((takeG prefixT).bind fun
    | none => .call .primary .ret
    | some o => (B8 o).bind fun n => .call .unary fun a => .ret (match n with
     | some n => ⟨o.indexed, [], o.val, n, [a]⟩
     | none => ⟨o.op, [], o.val, 0, [a]⟩)) l = some (.ok (v, l')) := h
   obtain ⟨o, l2, hb, hC⟩ := Ag hA
   have s2 := A9 hb
   have c2 := cnt_suf s2
   rcases ev_take hb with ⟨w, p, rfl, hp⟩ | ⟨rfl, rfl⟩
   ·obtain ⟨k, l3, hk, hD⟩ := Ag (show evG (evN n) ((B8 p).bind fun n => .call .unary fun a => .ret (match n with
     | some n => ⟨p.indexed, [], p.val, n, [a]⟩
     | none => ⟨p.op, [], p.val, 0, [a]⟩)) l2 = some (.ok (v, l')) from hC)
    have s3 := (A9 hk).trans s2
    have c3 := cnt_suf (A9 hk)
    obtain ⟨c, l4, hq2, hE⟩ := Au hD
    obtain ⟨oc, cc⟩ := ih .unary _ _ _ (hl.suf s3) (by have := s3.length_le; omega) hq2
    obtain ⟨e1, rfl⟩ := An hE
    obtain ⟨i1, i2⟩ := pre_node (pre_val hp) (ev_index hk (hl.suf s2)) oc (show v = prfxF p k c from e1)
    exact ⟨i1, by rw [i2]; omega⟩
   ·obtain ⟨a, l3, hq1, hD⟩ := Au (show evG (evN n) (.call .primary .ret) l2 = some (.ok (v, l')) from hC)
    obtain ⟨rfl, rfl⟩ := An hD
    exact ih .primary _ _ _ hl hc hq1
  | primary =>
   have hA : evG (evN n) ((Ah [116, 114, 117, 101]).bind fun b => if b then .ret ⟨1, [], 0, 0, []⟩ else
    (Ah [102, 97, 108, 115, 101]).bind fun b => if b then .ret ⟨2, [], 0, 0, []⟩ else
    (Ah [40]).bind fun b => if b then .call .formula fun f => (A1 [41]).bind fun _ => .ret f else
    nameG.bind fun s => (Ah [61]).bind fun b => if b then numberG.bind fun n => .ret (isF s n) else
    (Ah [33, 61]).bind fun b => if b then numberG.bind fun n => .ret (notF (isF s n)) else .ret (isF s 1)) l = some (.ok (v, l')) := h
   obtain ⟨b, l1, hb1, hB⟩ := Ag hA
   rcases Be hb1 with ⟨rfl, x, rfl, _⟩ | ⟨rfl, rfl⟩
   ·obtain ⟨rfl, rfl⟩ := An (show evG (evN n) (.ret ⟨1, [], 0, 0, []⟩) l1 = some (.ok (v, l')) from hB)
    refine ⟨by decide, ?_⟩
    show oF 4 (.mk 1 [] 0 0 []) + _ ≤ _
    rw [show oF 4 (.mk 1 [] 0 0 []) = 0 by decide, cnt_cons]; omega
   replace hB : evG (evN n) ((Ah [102, 97, 108, 115, 101]).bind fun b => if b then .ret ⟨2, [], 0, 0, []⟩ else
    (Ah [40]).bind fun b => if b then .call .formula fun f => (A1 [41]).bind fun _ => .ret f else
    nameG.bind fun s => (Ah [61]).bind fun b => if b then numberG.bind fun n => .ret (isF s n) else
    (Ah [33, 61]).bind fun b => if b then numberG.bind fun n => .ret (notF (isF s n)) else .ret (isF s 1)) l1 = some (.ok (v, l')) := hB
   obtain ⟨b, l2, hb2, hC⟩ := Ag hB
   rcases Be hb2 with ⟨rfl, x, rfl, _⟩ | ⟨rfl, rfl⟩
   ·obtain ⟨rfl, rfl⟩ := An (show evG (evN n) (.ret ⟨2, [], 0, 0, []⟩) l2 = some (.ok (v, l')) from hC)
    refine ⟨by decide, ?_⟩
    show oF 4 (.mk 2 [] 0 0 []) + _ ≤ _
    rw [show oF 4 (.mk 2 [] 0 0 []) = 0 by decide, cnt_cons]; omega
   replace hC : evG (evN n) ((Ah [40]).bind fun b => if b then .call .formula fun f => (A1 [41]).bind fun _ => .ret f else
    nameG.bind fun s => (Ah [61]).bind fun b => if b then numberG.bind fun n => .ret (isF s n) else
    (Ah [33, 61]).bind fun b => if b then numberG.bind fun n => .ret (notF (isF s n)) else .ret (isF s 1)) l2 = some (.ok (v, l')) := hC
   obtain ⟨b, l3, hb3, hD⟩ := Ag hC
   rcases Be hb3 with ⟨rfl, x, rfl, hx⟩ | ⟨rfl, rfl⟩
   ·obtain ⟨f, l4, hq1, hE⟩ := Au (show evG (evN n) (.call .formula fun f => (A1 [41]).bind fun _ => .ret f) l3 = some (.ok (v, l')) from hD)
    have s3 : l3 <:+ x :: l3 := List.suffix_cons x l3
    obtain ⟨of, cf⟩ := ih .formula _ _ _ (hl.suf s3) (by have := s3.length_le; omega) hq1
    obtain ⟨_, l5, hq2, hF⟩ := Ag hE
    have c5 := ev_expect hq2
    obtain ⟨rfl, rfl⟩ := An hF
    have := oF_wrap 4 v
    refine ⟨of, ?_⟩
    rw [cnt_cons, if_pos hx]; omega
   replace hD : evG (evN n) (nameG.bind fun s => (Ah [61]).bind fun b => if b then numberG.bind fun n => .ret (isF s n) else
    (Ah [33, 61]).bind fun b => if b then numberG.bind fun n => .ret (notF (isF s n)) else .ret (isF s 1)) l3 = some (.ok (v, l')) := hD
   obtain ⟨s, l4, hn, hE⟩ := Ag hD
   have s4 := A9 hn
   have c4 := cnt_suf s4
   have hs := ev_name hn
   obtain ⟨b, l5, hb5, hF⟩ := Ag hE
   have s5 := (A9 hb5).trans s4
   have c5 := cnt_suf (A9 hb5)
   rcases Be hb5 with ⟨rfl, x, rfl, hx⟩ | ⟨rfl, rfl⟩
   ·obtain ⟨k, l6, hk, hG⟩ := Ag (show evG (evN n) (numberG.bind fun n => .ret (isF s n)) l5 = some (.ok (v, l')) from hF)
    have c6 := cnt_suf (A9 hk)
    obtain ⟨rfl, rfl⟩ := An hG
    obtain ⟨k1, k2⟩ := ev_number hk (hl.suf s5)
    refine ⟨is_ok hs k1 k2, ?_⟩
    show oF 4 (isF s k) + _ ≤ _
    rw [is_o 4 (by omega)]; omega
   replace hF : evG (evN n) ((Ah [33, 61]).bind fun b => if b then numberG.bind fun n => .ret (notF (isF s n)) else .ret (isF s 1)) l5 = some (.ok (v, l')) := hF
   obtain ⟨b, l6, hb6, hG⟩ := Ag hF
   have s6 := (A9 hb6).trans s5
   have c6 := cnt_suf (A9 hb6)
   rcases Be hb6 with ⟨rfl, x, rfl, hx⟩ | ⟨rfl, rfl⟩
   ·obtain ⟨k, l7, hk, hH⟩ := Ag (show evG (evN n) (numberG.bind fun n => .ret (notF (isF s n))) l6 = some (.ok (v, l')) from hG)
    have c7 := cnt_suf (A9 hk)
    obtain ⟨rfl, rfl⟩ := An hH
    obtain ⟨k1, k2⟩ := ev_number hk (hl.suf s6)
    obtain ⟨i1, i2⟩ := pre_node (p := ⟨4, 0, 0⟩) (k := none) (.inl rfl) (.inl rfl) (is_ok hs k1 k2) (f := notF (isF s k)) rfl
    refine ⟨i1, ?_⟩
    show oF 4 (notF (isF s k)) + _ ≤ _
    rw [i2, is_o 4 (by omega)]; omega
   ·obtain ⟨rfl, rfl⟩ := An (show evG (evN n) (.ret (isF s 1)) l6 = some (.ok (v, l')) from hG)
    refine ⟨is_ok hs (by omega) (by omega), ?_⟩
    show oF 4 (isF s 1) + _ ≤ _
    rw [is_o 4 (by omega)]; omega
  | req =>
   have hA : evG (evN n) ((Ah [97, 115, 115, 117, 109, 101]).bind fun b => (if b then .ret 1 else (A1 [103, 117, 97, 114, 97, 110, 116, 101, 101]).bind fun _ => .ret 2).bind fun k =>
    nameG.bind fun s => (A1 [58]).bind fun _ => .call .formula fun f => .ret ⟨[], s, k, f⟩) l = some (.ok (v, l')) := h
   obtain ⟨b, l1, hb1, hB⟩ := Ag hA
   have s1 := A9 hb1
   obtain ⟨k, l2, hk, hC⟩ := Ag hB
   have s2 := (A9 hk).trans s1
   have hkk : k = 1 ∨ k = 2 := by
    cases b with
    | true => exact .inl (An (show evG (evN n) (.ret 1) l1 = some (.ok (k, l2)) from hk)).1
    | false =>
     obtain ⟨_, l3, _, hr⟩ := Ag (show evG (evN n) ((A1 [103, 117, 97, 114, 97, 110, 116, 101, 101]).bind fun _ => .ret 2) l1 = some (.ok (k, l2)) from hk)
     exact .inr (An hr).1
   obtain ⟨s, l3, hn, hD⟩ := Ag hC
   have s3 := (A9 hn).trans s2
   obtain ⟨_, l4, he, hE⟩ := Ag hD
   have s4 := (A9 he).trans s3
   obtain ⟨f, l5, hq1, hF⟩ := Au hE
   obtain ⟨of, _⟩ := ih .formula _ _ _ (hl.suf s4) (by have := s4.length_le; omega) hq1
   obtain ⟨rfl, rfl⟩ := An hF
   exact ⟨rfl, ev_name hn, hkk, of⟩
  | line =>
   have hA : evG (evN n) (.call .req fun r => (A1 [59]).bind fun _ => .ret r) l = some (.ok (v, l')) := h
   obtain ⟨r, l1, hq1, hB⟩ := Au hA
   obtain ⟨_, l2, _, hC⟩ := Ag hB
   obtain ⟨rfl, rfl⟩ := An hC
   exact ih .req _ _ _ hl hc hq1
  | lines =>
   have hA : evG (evN n) ((sees2 [97, 115, 115, 117, 109, 101] [103, 117, 97, 114, 97, 110, 116, 101, 101]).bind fun b => if b then .call .line fun r => .call .lines fun l => .ret (r :: l) else .ret []) l = some (.ok (v, l')) := h
   obtain ⟨b, l1, hb, hB⟩ := Ag hA
   have s1 := A9 hb
   cases b with
   | true =>
    obtain ⟨r, l2, hq1, hC⟩ := Au (show evG (evN n) (.call .line fun r => .call .lines fun l => .ret (r :: l)) l1 = some (.ok (v, l')) from hB)
    have p1 := ih .line _ _ _ (hl.suf s1) (by have := s1.length_le; omega) hq1
    have s2 := (evN_suf hq1).trans s1
    obtain ⟨k, l3, hq2, hD⟩ := Au hC
    have p2 := ih .lines _ _ _ (hl.suf s2) (by have := s2.length_le; omega) hq2
    obtain ⟨rfl, rfl⟩ := An hD
    intro q hq
    rcases List.mem_cons.1 hq with rfl | hq
    ·exact p1.2
    ·exact p2 q hq
   | false =>
    obtain ⟨rfl, rfl⟩ := An (show evG (evN n) (.ret []) l1 = some (.ok (v, l')) from hB)
    intro q hq; cases hq
  | part =>
   have hA : evG (evN n) ((A1 [112, 97, 114, 116]).bind fun _ => nameG.bind fun s => (A1 [123]).bind fun _ => .call .lines fun l => (A1 [125]).bind fun _ => .ret (l.map fun r => ⟨s, r.name, r.kind, r.formula⟩)) l = some (.ok (v, l')) := h
   obtain ⟨_, l1, h1, hB⟩ := Ag hA
   have s1 := A9 h1
   obtain ⟨s, l2, hn, hC⟩ := Ag hB
   have s2 := (A9 hn).trans s1
   obtain ⟨_, l3, h3, hD⟩ := Ag hC
   have s3 := (A9 h3).trans s2
   obtain ⟨k, l4, hq1, hE⟩ := Au hD
   have p1 := ih .lines _ _ _ (hl.suf s3) (by have := s3.length_le; omega) hq1
   obtain ⟨_, l5, _, hF⟩ := Ag hE
   obtain ⟨rfl, rfl⟩ := An hF
   intro q hq
   obtain ⟨r, hr, rfl⟩ := List.mem_map.1 hq
   exact ⟨ev_name hn, p1 r hr⟩
  | parts =>
   have hA : evG (evN n) ((sees2 [112, 97, 114, 116] [112, 97, 114, 116]).bind fun b => if b then .call .part fun l => .call .parts fun m => .ret (l :: m) else .ret []) l = some (.ok (v, l')) := h
   obtain ⟨b, l1, hb, hB⟩ := Ag hA
   have s1 := A9 hb
   cases b with
   | true =>
    obtain ⟨r, l2, hq1, hC⟩ := Au (show evG (evN n) (.call .part fun l => .call .parts fun m => .ret (l :: m)) l1 = some (.ok (v, l')) from hB)
    have p1 := ih .part _ _ _ (hl.suf s1) (by have := s1.length_le; omega) hq1
    have s2 := (evN_suf hq1).trans s1
    obtain ⟨k, l3, hq2, hD⟩ := Au hC
    have p2 := ih .parts _ _ _ (hl.suf s2) (by have := s2.length_le; omega) hq2
    obtain ⟨rfl, rfl⟩ := An hD
    intro q hq
    rcases List.mem_cons.1 hq with rfl | hq
    ·exact p1
    ·exact p2 q hq
   | false =>
    obtain ⟨rfl, rfl⟩ := An (show evG (evN n) (.ret []) l1 = some (.ok (v, l')) from hB)
    intro q hq; cases hq
  | signal =>
   have hA : evG (evN n) ((Ah [105, 110, 112, 117, 116]).bind fun i => (if i then .ret () else A1 [111, 117, 116, 112, 117, 116]).bind fun _ => nameG.bind fun s =>
    ((Ah [58]).bind fun b => if b then numberG else .ret 2).bind fun n => (A1 [59]).bind fun _ => .ret ⟨s, i, n⟩) l = some (.ok (v, l')) := h
   obtain ⟨i, l1, h1, hB⟩ := Ag hA
   have s1 := A9 h1
   obtain ⟨_, l2, h2, hC⟩ := Ag hB
   have s2 := (A9 h2).trans s1
   obtain ⟨s, l3, hn, hD⟩ := Ag hC
   have s3 := (A9 hn).trans s2
   obtain ⟨k, l4, hk, hE⟩ := Ag hD
   have hkk : 0 ≤ k ∧ k ≤ 9999 := by
    obtain ⟨b, l5, hb, hr⟩ := Ag hk
    have s5 := (A9 hb).trans s3
    cases b with
    | true => exact ev_number (show evG (evN n) numberG l5 = some (.ok (k, l4)) from hr) (hl.suf s5)
    | false =>
     obtain ⟨rfl, _⟩ := An (show evG (evN n) (.ret 2) l5 = some (.ok (k, l4)) from hr)
     exact ⟨by omega, by omega⟩
   obtain ⟨_, l5, _, hF⟩ := Ag hE
   obtain ⟨rfl, rfl⟩ := An hF
   exact ⟨ev_name hn, hkk⟩
  | sigs =>
   have hA : evG (evN n) ((sees2 [105, 110, 112, 117, 116] [111, 117, 116, 112, 117, 116]).bind fun b => if b then .call .signal fun x => .call .sigs fun l => .ret (x :: l) else .ret []) l = some (.ok (v, l')) := h
   obtain ⟨b, l1, hb, hB⟩ := Ag hA
   have s1 := A9 hb
   cases b with
   | true =>
    obtain ⟨r, l2, hq1, hC⟩ := Au (show evG (evN n) (.call .signal fun x => .call .sigs fun l => .ret (x :: l)) l1 = some (.ok (v, l')) from hB)
    have p1 := ih .signal _ _ _ (hl.suf s1) (by have := s1.length_le; omega) hq1
    have s2 := (evN_suf hq1).trans s1
    obtain ⟨k, l3, hq2, hD⟩ := Au hC
    have p2 := ih .sigs _ _ _ (hl.suf s2) (by have := s2.length_le; omega) hq2
    obtain ⟨rfl, rfl⟩ := An hD
    intro q hq
    rcases List.mem_cons.1 hq with rfl | hq
    ·exact p1
    ·exact p2 q hq
   | false =>
    obtain ⟨rfl, rfl⟩ := An (show evG (evN n) (.ret []) l1 = some (.ok (v, l')) from hB)
    intro q hq; cases hq
  | spec =>
   have hA : evG (evN n) (.call .sigs fun s => .call .parts fun r => .ret ⟨s, r.flatten⟩) l = some (.ok (v, l')) := h
   obtain ⟨x, l1, hq1, hB⟩ := Au hA
   have p1 := ih .sigs _ _ _ hl hc hq1
   have s1 := evN_suf hq1
   obtain ⟨k, l2, hq2, hC⟩ := Au hB
   have p2 := ih .parts _ _ _ (hl.suf s1) (by have := s1.length_le; omega) hq2
   obtain ⟨rfl, rfl⟩ := An hC
   refine ⟨p1, fun r hr => ?_⟩
   obtain ⟨rs, h1, h2⟩ := List.mem_flatten.1 hr
   exact p2 rs h1 r h2
  | edit =>
   have hA : evG (evN n) ((Ah [100, 114, 111, 112]).bind fun b => if b then nameG.bind fun s => .ret ⟨2, ⟨[], s, 0, DD⟩⟩ else
    (Ah [97, 100, 100]).bind fun b => (if b then .ret 1 else (A1 [114, 101, 112, 108, 97, 99, 101]).bind fun _ => .ret 3).bind fun k =>
    nameG.bind fun p => .call .req fun r => .ret ⟨k, ⟨p, r.name, r.kind, r.formula⟩⟩) l = some (.ok (v, l')) := h
   obtain ⟨b, l1, h1, hB⟩ := Ag hA
   have s1 := A9 h1
   cases b with
   | true =>
    obtain ⟨s, l2, hn, hC⟩ := Ag (show evG (evN n) (nameG.bind fun s => .ret ⟨2, ⟨[], s, 0, DD⟩⟩) l1 = some (.ok (v, l')) from hB)
    obtain ⟨rfl, rfl⟩ := An hC
    exact .inl ⟨rfl, rfl, rfl, rfl, ev_name hn⟩
   | false =>
    replace hB : evG (evN n) ((Ah [97, 100, 100]).bind fun b => (if b then .ret 1 else (A1 [114, 101, 112, 108, 97, 99, 101]).bind fun _ => .ret 3).bind fun k =>
     nameG.bind fun p => .call .req fun r => .ret ⟨k, ⟨p, r.name, r.kind, r.formula⟩⟩) l1 = some (.ok (v, l')) := hB
    obtain ⟨b, l2, h2, hC⟩ := Ag hB
    have s2 := (A9 h2).trans s1
    obtain ⟨k, l3, hk, hD⟩ := Ag hC
    have s3 := (A9 hk).trans s2
    have hkk : k = 1 ∨ k = 3 := by
     cases b with
     | true => exact .inl (An (show evG (evN n) (.ret 1) l2 = some (.ok (k, l3)) from hk)).1
     | false =>
      obtain ⟨_, l4, _, hr⟩ := Ag (show evG (evN n) ((A1 [114, 101, 112, 108, 97, 99, 101]).bind fun _ => .ret 3) l2 = some (.ok (k, l3)) from hk)
      exact .inr (An hr).1
    obtain ⟨p, l4, hn, hE⟩ := Ag hD
    have s4 := (A9 hn).trans s3
    obtain ⟨r, l5, hq1, hF⟩ := Au hE
    obtain ⟨_, p1⟩ := ih .req _ _ _ (hl.suf s4) (by have := s4.length_le; omega) hq1
    obtain ⟨rfl, rfl⟩ := An hF
    exact .inr ⟨hkk, ev_name hn, p1⟩
theorem run_phi {nt : NT} {l l' : List Tok} {v : nt.T} (hl : NumsOk l) (hc : l.length ≤ 2000) (h : RunN nt l (.ok (v, l'))) : Phi nt v l l' := by
 obtain ⟨n, hn⟩ := h
 exact evN_phi (n + 1) nt l v l' hl hc hn
end Go.Proofs.YtfcgdbmoncnibaaGreatDoor
namespace Go.Proofs.YtfcgdbmoncnibaaGreatDoor
set_option linter.unusedVariables false
def rqmK (r : Rqm) : List BT := (1, if r.kind = 1 then [97, 115, 115, 117, 109, 101] else [103, 117, 97, 114, 97, 110, 116, 101, 101]) :: (1, r.name) :: (3, [58]) :: tkF 0 r.formula
def sgnK (x : Sgn) : List BT := (1, if x.input then [105, 110, 112, 117, 116] else [111, 117, 116, 112, 117, 116]) :: (1, x.name) :: ((if x.size = 2 then [] else [(3, [58]), (2, CN x.size)]) ++ [(3, [59])])
def itG {α : Type} (o : List UInt8 → List α) (m : Rqm → List α) (c : List α) (l : List Rqm) (i : Nat) : List α := match l[i]? with
 | none => []
 | some r => (if i = 0 ∨ (l[i - 1]?).map (·.part) ≠ some r.part then o r.part else []) ++ (m r ++ (if i + 1 = l.length ∨ (l[i + 1]?).map (·.part) ≠ some r.part then c else []))
def itR {α : Type} (o : List UInt8 → List α) (m : Rqm → List α) (c : List α) (prev : Option (List UInt8)) : List Rqm → List α
 | [] => []
 | r :: l => (if prev ≠ some r.part then o r.part else []) ++ (m r ++ ((if l.head?.map (·.part) ≠ some r.part then c else []) ++ itR o m c (some r.part) l))
theorem itG_itR {α : Type} (o : List UInt8 → List α) (m : Rqm → List α) (c : List α) : ∀ (l2 l1 : List Rqm), (List.range' l1.length l2.length).flatMap (itG o m c (l1 ++ l2)) = itR o m c (l1.getLast?.map (·.part)) l2
 | [], l1 => by simp [itR]
 | r :: l2, l1 => by
  have ih := itG_itR o m c l2 (l1 ++ [r])
  rw [List.append_assoc, List.singleton_append] at ih
  simp only [List.length_append, List.length_singleton, List.getLast?_append, List.getLast?_singleton, Option.some_or, Option.map_some] at ih
  rw [List.length_cons, List.range'_succ, List.flatMap_cons, ih]
  have hr : (l1 ++ r :: l2)[l1.length]? = some r := by simp
  have h1 : (l1.length = 0 ∨ ((l1 ++ r :: l2)[l1.length - 1]?).map (·.part) ≠ some r.part) ↔ l1.getLast?.map (·.part) ≠ some r.part := by
   cases l1 with
   | nil => simp
   | cons a k =>
    have : ((a :: k) ++ r :: l2)[(a :: k).length - 1]? = (a :: k).getLast? := by
     rw [List.getElem?_append_left (by simp), List.getLast?_eq_getElem?]
    rw [this]
    simp
  have h2 : (l1.length + 1 = (l1 ++ r :: l2).length ∨ ((l1 ++ r :: l2)[l1.length + 1]?).map (·.part) ≠ some r.part) ↔ l2.head?.map (·.part) ≠ some r.part := by
   rw [List.getElem?_append_right (by omega), show l1.length + 1 - l1.length = 0 + 1 by omega, List.getElem?_cons_succ]
   cases l2 with
   | nil => simp
   | cons b k => simp
  have e : itG o m c (l1 ++ r :: l2) l1.length = (if l1.getLast?.map (·.part) ≠ some r.part then o r.part else []) ++ (m r ++ (if l2.head?.map (·.part) ≠ some r.part then c else [])) := by
   unfold itG
   rw [hr]
   simp only [h1, h2]
  rw [e]
  simp [itR]
theorem itG_all {α : Type} (o : List UInt8 → List α) (m : Rqm → List α) (c : List α) (l : List Rqm) : (List.range l.length).flatMap (itG o m c l) = itR o m c none l := by
 have := itG_itR o m c l []
 rw [List.range_eq_range']
 simpa using this
theorem itR_grp {α : Type} (o : List UInt8 → List α) (m : Rqm → List α) (c : List α) (p : List UInt8) : ∀ (l : List Rqm) (r : Rqm), r.part = p →
  itR o m c (some p) (r :: l) = ((r :: l).takeWhile fun x => decide (x.part = p)).flatMap m ++ (c ++ itR o m c none ((r :: l).dropWhile fun x => decide (x.part = p)))
 | [], r, hr => by simp [itR, hr]
 | x :: l, r, hr => by
  have e1 : (r :: x :: l).takeWhile (fun y => decide (y.part = p)) = r :: (x :: l).takeWhile (fun y => decide (y.part = p)) := by rw [List.takeWhile_cons]; simp [hr]
  have e2 : (r :: x :: l).dropWhile (fun y => decide (y.part = p)) = (x :: l).dropWhile (fun y => decide (y.part = p)) := by rw [List.dropWhile_cons]; simp [hr]
  rw [e1, e2, List.flatMap_cons]
  rw [itR, hr, if_neg (by simp)]
  by_cases hx : x.part = p
  ·rw [if_neg (by simp [hx]), List.nil_append, List.nil_append, itR_grp o m c p l x hx]
   simp
  ·have e3 : (x :: l).takeWhile (fun y => decide (y.part = p)) = [] := by rw [List.takeWhile_cons]; simp [hx]
   have e4 : (x :: l).dropWhile (fun y => decide (y.part = p)) = x :: l := by rw [List.dropWhile_cons]; simp [hx]
   have h1 : some p ≠ some x.part := fun h => hx (Option.some.inj h).symm
   have h2 : ((x :: l).head?.map (·.part)) ≠ some p := fun h => hx (Option.some.inj h)
   have e5 : itR o m c (some p) (x :: l) = itR o m c none (x :: l) := by
    simp only [itR]
    rw [if_pos h1, if_pos (show (none : Option (List UInt8)) ≠ some x.part from nofun)]
   rw [e3, e4, if_pos h2, e5]
   simp
def oT (p : List UInt8) : List UInt8 := [112, 97, 114, 116, 32] ++ (p ++ [32, 123, 10])
def mT (r : Rqm) : List UInt8 := [32, 32] ++ (reqT r ++ [59, 10])
def oK (p : List UInt8) : List BT := [(1, [112, 97, 114, 116]), (1, p), (3, [123])]
def mK (r : Rqm) : List BT := rqmK r ++ [(3, [59])]
def cK : List BT := [(3, [125])]
theorem rqsT_eq (l : List Rqm) : rqsT l = itR oT mT [125, 10] none l := by
 rw [← itG_all]
 unfold rqsT
 congr 1
 funext i
 unfold rqI itG
 cases l[i]? with
 | none => rfl
 | some r => simp [oT, mT]
def spcK (s : Spc) : List BT := s.sigs.flatMap sgnK ++ itR oK mK cK none s.reqs
def edtK (e : Edt) : List BT := if e.kind = 2 then [(1, [100, 114, 111, 112]), (1, e.req.name)] else (1, if e.kind = 1 then [97, 100, 100] else [114, 101, 112, 108, 97, 99, 101]) :: (1, e.req.part) :: rqmK e.req
theorem ReadL.word {y s : List UInt8} {bs : List BT} (h1 : 1 ≤ y.length) (h2 : y.length ≤ 12) (h3 : BP (y.getD 0 0) = true) (h4 : y.all BG = true) (hr : ReadL s bs) (hs : folB s.head? = true) : ReadL (y ++ s) ((1, y) :: bs) := .tok h1 (word_step h1 h2 h3 h4 hs) hr
theorem ReadL.nl {s : List UInt8} {bs : List BT} (h : ReadL s bs) : ReadL (59 :: 10 :: s) ((3, [59]) :: bs) := ReadL.one (by simp) (ReadL.gap (.inr rfl) h)
theorem req_reads {r : Rqm} (hok : okR r = true) {s : List UInt8} {bs : List BT} (hr : ReadL s bs) (hs : Fol s) : ReadL (reqT r ++ s) (rqmK r ++ bs) := by
 simp only [okR, Bool.and_eq_true] at hok
 have hf := (readsF _ r.formula (Nat.le_refl _) hok.2 0 s bs hr hs).1
 have h1 : ReadL (r.name ++ ([58, 32] ++ (prF 0 r.formula ++ s))) ((1, r.name) :: (3, [58]) :: (tkF 0 r.formula ++ bs)) := ReadL.name hok.1.2 (ReadL.one (by simp) (ReadL.gap (.inl rfl) hf)) rfl
 by_cases hk : r.kind = 1
 ·have h2 := ReadL.word (y := [97, 115, 115, 117, 109, 101]) (by simp) (by simp) rfl rfl (ReadL.gap (c := 32) (.inl rfl) h1) rfl
  simpa [reqT, rqmK, hk] using h2
 ·have h2 := ReadL.word (y := [103, 117, 97, 114, 97, 110, 116, 101, 101]) (by simp) (by simp) rfl rfl (ReadL.gap (c := 32) (.inl rfl) h1) rfl
  simpa [reqT, rqmK, hk] using h2
theorem sgn_reads {x : Sgn} (hok : okS x = true) {s : List UInt8} {bs : List BT} (hr : ReadL s bs) : ReadL (sgnT x ++ s) (sgnK x ++ bs) := by
 simp only [okS, numB, Bool.and_eq_true, decide_eq_true_eq] at hok
 have h1 : ReadL (x.name ++ ((if x.size = 2 then [] else [58, 32] ++ CN x.size) ++ 59 :: 10 :: s)) ((1, x.name) :: ((if x.size = 2 then [] else [(3, [58]), (2, CN x.size)]) ++ (3, [59]) :: bs)) := by
  by_cases h2 : x.size = 2
  ·rw [if_pos h2, if_pos h2]
   exact ReadL.name hok.1 hr.nl rfl
  ·rw [if_neg h2, if_neg h2]
   have := ReadL.num hok.2.2 hr.nl rfl
   have h3 : ReadL (58 :: 32 :: (CN x.size ++ 59 :: 10 :: s)) ((3, [58]) :: (2, CN x.size) :: (3, [59]) :: bs) := ReadL.one (by simp) (ReadL.gap (.inl rfl) this)
   exact ReadL.name hok.1 h3 rfl
 cases hi : x.input with
 | true =>
  have h2 := ReadL.word (y := [105, 110, 112, 117, 116]) (by simp) (by simp) rfl rfl (ReadL.gap (c := 32) (.inl rfl) h1) rfl
  simpa [sgnT, sgnK, hi] using h2
 | false =>
  have h2 := ReadL.word (y := [111, 117, 116, 112, 117, 116]) (by simp) (by simp) rfl rfl (ReadL.gap (c := 32) (.inl rfl) h1) rfl
  simpa [sgnT, sgnK, hi] using h2
theorem sigs_read : ∀ {l : List Sgn} (_ : l.all okS = true) {s : List UInt8} {bs : List BT} (_ : ReadL s bs), ReadL (l.flatMap sgnT ++ s) (l.flatMap sgnK ++ bs)
 | [], _, s, bs, hr => hr
 | x :: l, h, s, bs, hr => by
  rw [List.all_cons, Bool.and_eq_true] at h
  rw [List.flatMap_cons, List.flatMap_cons, List.append_assoc, List.append_assoc]
  exact sgn_reads h.1 (sigs_read h.2 hr)
theorem itR_read : ∀ (l : List Rqm) (prev : Option (List UInt8)) (_ : l.all okRq = true) {s : List UInt8} {bs : List BT} (_ : ReadL s bs), ReadL (itR oT mT [125, 10] prev l ++ s) (itR oK mK cK prev l ++ bs)
 | [], _, _, s, bs, hr => hr
 | r :: l, prev, h, s, bs, hr => by
  rw [List.all_cons, Bool.and_eq_true] at h
  have hk := h.1
  simp only [okRq, Bool.and_eq_true] at hk
  have ih := itR_read l (some r.part) h.2 hr
  have h1 : ReadL ((if l.head?.map (·.part) ≠ some r.part then [125, 10] else []) ++ (itR oT mT [125, 10] (some r.part) l ++ s)) ((if l.head?.map (·.part) ≠ some r.part then cK else []) ++ (itR oK mK cK (some r.part) l ++ bs)) := by
   split
   ·exact ReadL.one (by simp) (ReadL.gap (.inr rfl) ih)
   ·exact ih
  have h2 := req_reads hk.2 h1.nl ⟨rfl, by simp⟩
  have h3 : ReadL ([32, 32] ++ (reqT r ++ 59 :: 10 :: _)) _ := ReadL.gap (.inl rfl) (ReadL.gap (.inl rfl) h2)
  by_cases hp : prev ≠ some r.part
  ·have h4 := ReadL.word (y := [112, 97, 114, 116]) (by simp) (by simp) rfl rfl (ReadL.gap (c := 32) (.inl rfl) (ReadL.name hk.1 (ReadL.gap (c := 32) (.inl rfl) (ReadL.one (c := 123) (by simp) (ReadL.gap (c := 10) (.inr rfl) h3))) rfl)) rfl
   simpa [itR, hp, oT, mT, oK, mK] using h4
  ·simp only [ne_eq, Decidable.not_not] at hp
   simpa [itR, hp, mT, mK] using h3
theorem spc_reads {x : Spc} (hok : DE x = true) {s : List UInt8} {bs : List BT} (hr : ReadL s bs) : ReadL (spcT x ++ s) (spcK x ++ bs) := by
 simp only [DE, Bool.and_eq_true] at hok
 have h1 := itR_read x.reqs none hok.2 hr
 have := sigs_read hok.1 h1
 rw [← rqsT_eq] at this
 simpa [spcT, spcK] using this
theorem edt_reads {e : Edt} (hok : okE e = true) : ReadL (edtT e) (edtK e) := by
 unfold okE at hok
 unfold edtT edtK
 by_cases h2 : e.kind = 2
 ·rw [if_pos h2] at hok ⊢
  rw [if_pos h2]
  simp only [Bool.and_eq_true] at hok
  have h1 := ReadL.name hok.2 ReadL.nil rfl
  have h4 := ReadL.word (y := [100, 114, 111, 112]) (by simp) (by simp) rfl rfl (ReadL.gap (c := 32) (.inl rfl) h1) rfl
  simpa using h4
 ·rw [if_neg h2] at hok ⊢
  rw [if_neg h2]
  simp only [Bool.and_eq_true] at hok
  have h1 := req_reads hok.2 ReadL.nil ⟨rfl, by simp⟩
  rw [List.append_nil, List.append_nil] at h1
  have h3 := ReadL.name hok.1.2 (ReadL.gap (c := 32) (.inl rfl) h1) rfl
  by_cases hk : e.kind = 1
  ·have h4 := ReadL.word (y := [97, 100, 100]) (by simp) (by simp) rfl rfl (ReadL.gap (c := 32) (.inl rfl) h3) rfl
   simpa [hk] using h4
  ·have h4 := ReadL.word (y := [114, 101, 112, 108, 97, 99, 101]) (by simp) (by simp) rfl rfl (ReadL.gap (c := 32) (.inl rfl) h3) rfl
   simpa [hk] using h4
end Go.Proofs.YtfcgdbmoncnibaaGreatDoor
namespace Go.Proofs.YtfcgdbmoncnibaaGreatDoor
set_option linter.unusedVariables false
def unp0 (r : Rqm) : Rqm := ⟨[], r.name, r.kind, r.formula⟩
theorem req_run {r : Rqm} (hok : okR r = true) {rest : List Tok} (hr : StopL 0 rest) : RunN .req (BF (rqmK r) ++ rest) (.ok (unp0 r, rest)) := by
 simp only [okR, Bool.and_eq_true, Bool.or_eq_true, decide_eq_true_eq] at hok
 have hf : RunN .formula (BF (tkF 0 r.formula) ++ rest) (.ok (r.formula, rest)) := runsF _ r.formula (Nat.le_refl _) hok.2 0 rest (by omega) hr
 have ht : ∀ k : Int, Run (nameG.bind fun s => (A1 [58]).bind fun _ => .call .formula fun f => .ret (⟨[], s, k, f⟩ : Rqm)) (tkn (1, r.name) :: tkn (3, [58]) :: (BF (tkF 0 r.formula) ++ rest)) (.ok (⟨[], r.name, k, r.formula⟩, rest)) := fun k => by
  refine run_name (x := tkn (1, r.name)) rfl hok.1.2 ?_
  refine CZ (x := tkn (3, [58])) rfl ?_
  exact Run.call hf (Run.ret _ _)
 by_cases hk : r.kind = 1
 ·have e : BF (rqmK r) ++ rest = tkn (1, [97, 115, 115, 117, 109, 101]) :: tkn (1, r.name) :: tkn (3, [58]) :: (BF (tkF 0 r.formula) ++ rest) := by simp [rqmK, BF, hk]
  rw [e]
  have e2 : unp0 r = ⟨[], r.name, 1, r.formula⟩ := by simp [unp0, hk]
  rw [e2]
  exact DO (x := tkn (1, [97, 115, 115, 117, 109, 101])) rfl (Run.bind (Run.ret _ _) (ht 1))
 ·have hk2 : r.kind = 2 := by rcases hok.1.1 with h | h; exact absurd h hk; exact h
  have e : BF (rqmK r) ++ rest = tkn (1, [103, 117, 97, 114, 97, 110, 116, 101, 101]) :: tkn (1, r.name) :: tkn (3, [58]) :: (BF (tkF 0 r.formula) ++ rest) := by simp [rqmK, BF, hk]
  rw [e]
  have e2 : unp0 r = ⟨[], r.name, 2, r.formula⟩ := by simp [unp0, hk2]
  rw [e2]
  refine Ch (l := tkn (1, [103, 117, 97, 114, 97, 110, 116, 101, 101]) :: _) rfl (Run.bind (CZ (x := tkn (1, [103, 117, 97, 114, 97, 110, 116, 101, 101])) rfl (Run.ret _ _)) (ht 2))
theorem line_run {r : Rqm} (hok : okR r = true) (rest : List Tok) : RunN .line (BF (mK r) ++ rest) (.ok (unp0 r, rest)) := by
 have e : BF (mK r) ++ rest = BF (rqmK r) ++ (tkn (3, [59]) :: rest) := by simp [mK, BF]
 rw [e]
 exact Run.call (req_run hok (StopL.cons rfl)) (CZ (x := tkn (3, [59])) rfl (Run.ret _ _))
theorem rqm_head (r : Rqm) (rest : List Tok) : (Aw [97, 115, 115, 117, 109, 101] ((BF (mK r) ++ rest).head?.map bare) || Aw [103, 117, 97, 114, 97, 110, 116, 101, 101] ((BF (mK r) ++ rest).head?.map bare)) = true := by
 by_cases hk : r.kind = 1
 ·simp [mK, rqmK, BF, hk, tkn, bare, Aw]
 ·simp [mK, rqmK, BF, hk, tkn, bare, Aw]
theorem lines_run : ∀ {g : List Rqm} (_ : ∀ r ∈ g, okR r = true) (rest : List Tok), RunN .lines (BF (g.flatMap mK) ++ (tkn (3, [125]) :: rest)) (.ok (g.map unp0, tkn (3, [125]) :: rest))
 | [], _, rest => Run.bind (C8 _ _ _) (Run.ret _ _)
 | r :: g, h, rest => by
  have e : BF ((r :: g).flatMap mK) ++ (tkn (3, [125]) :: rest) = BF (mK r) ++ (BF (g.flatMap mK) ++ (tkn (3, [125]) :: rest)) := by simp [BF]
  rw [e]
  have h1 := C8 [97, 115, 115, 117, 109, 101] [103, 117, 97, 114, 97, 110, 116, 101, 101] (BF (mK r) ++ (BF (g.flatMap mK) ++ (tkn (3, [125]) :: rest)))
  rw [rqm_head] at h1
  refine Run.bind h1 ?_
  exact Run.call (line_run (h r (by simp)) _) (Run.call (lines_run (fun x hx => h x (by simp [hx])) rest) (Run.ret _ _))
theorem part_run {g : List Rqm} {p : List UInt8} (hp : Bh p = true) (h : ∀ r ∈ g, okR r = true ∧ r.part = p) (rest : List Tok) : RunN .part (BF (oK p ++ (g.flatMap mK ++ cK)) ++ rest) (.ok (g, rest)) := by
 have e : BF (oK p ++ (g.flatMap mK ++ cK)) ++ rest = tkn (1, [112, 97, 114, 116]) :: tkn (1, p) :: tkn (3, [123]) :: (BF (g.flatMap mK) ++ (tkn (3, [125]) :: rest)) := by simp [oK, cK, BF]
 rw [e]
 refine CZ (x := tkn (1, [112, 97, 114, 116])) rfl (run_name (x := tkn (1, p)) rfl hp (CZ (x := tkn (3, [123])) rfl (Run.call (lines_run (fun r hr => (h r hr).1) rest) (CZ (x := tkn (3, [125])) rfl ?_))))
 have e2 : (g.map unp0).map (fun r => (⟨p, r.name, r.kind, r.formula⟩ : Rqm)) = g := by
  rw [List.map_map]
  refine (List.map_congr_left fun r hr => ?_).trans (List.map_id _)
  have := (h r hr).2
  cases r
  simp at this
  simp [unp0, this]
 show Run (.ret ((g.map unp0).map (fun r => (⟨p, r.name, r.kind, r.formula⟩ : Rqm)))) rest _
 rw [e2]
 exact Run.ret _ _
theorem parts_run : ∀ (n : Nat) (l : List Rqm) (_ : l.length ≤ n) (_ : l.all okRq = true) {rest r' : List Tok} {ps : List (List Rqm)} (_ : RunN .parts rest (.ok (ps, r'))), ∃ qs, RunN .parts (BF (itR oK mK cK none l) ++ rest) (.ok (qs, r')) ∧ qs.flatten = l ++ ps.flatten
 | n, [], _, _, rest, r', ps, hr => ⟨ps, hr, rfl⟩
 | 0, r :: l, hn, _, _, _, _, _ => by simp at hn
 | n + 1, r :: l, hn, hok, rest, r', ps, hr => by
  have hg : ∀ x ∈ (r :: l).takeWhile (fun x => decide (x.part = r.part)), okR x = true ∧ x.part = r.part := fun x hx => by
   have h1 := List.all_eq_true.1 hok x ((List.takeWhile_sublist _).subset hx)
   simp only [okRq, Bool.and_eq_true] at h1
   have h2 := List.all_eq_true.1 (List.all_takeWhile (p := fun x : Rqm => decide (x.part = r.part)) (l := r :: l)) x hx
   exact ⟨h1.2, by simpa using h2⟩
  have hpn : Bh r.part = true := by
   have h1 := List.all_eq_true.1 hok r (by simp)
   simp only [okRq, Bool.and_eq_true] at h1
   exact h1.1
  have e1 : itR oK mK cK none (r :: l) = oK r.part ++ itR oK mK cK (some r.part) (r :: l) := by
   simp only [itR]
   rw [if_pos (show (none : Option (List UInt8)) ≠ some r.part from nofun), if_neg (show ¬ (some r.part ≠ some r.part) from fun h => h rfl)]
   rfl
  have hdl : ((r :: l).dropWhile (fun x => decide (x.part = r.part))).length ≤ n := by
   rw [List.dropWhile_cons, if_pos (by simp)]
   have := (List.dropWhile_sublist (fun x : Rqm => decide (x.part = r.part)) (l := l)).length_le
   simp at hn; omega
  have hdo : ((r :: l).dropWhile (fun x => decide (x.part = r.part))).all okRq = true := by
   rw [List.all_eq_true] at hok ⊢
   exact fun x hx => hok x ((List.dropWhile_sublist _).subset hx)
  obtain ⟨qs, h1, h2⟩ := parts_run n _ hdl hdo hr
  refine ⟨(r :: l).takeWhile (fun x => decide (x.part = r.part)) :: qs, ?_, ?_⟩
  ·rw [e1, itR_grp _ _ _ r.part l r rfl]
   have e3 : BF (oK r.part ++ (((r :: l).takeWhile fun x => decide (x.part = r.part)).flatMap mK ++ (cK ++ itR oK mK cK none ((r :: l).dropWhile fun x => decide (x.part = r.part))))) ++ rest =
     BF (oK r.part ++ (((r :: l).takeWhile fun x => decide (x.part = r.part)).flatMap mK ++ cK)) ++ (BF (itR oK mK cK none ((r :: l).dropWhile fun x => decide (x.part = r.part))) ++ rest) := by simp [BF]
   rw [e3]
   refine Run.bind (a := true) (l' := BF (oK r.part ++ (((r :: l).takeWhile fun x => decide (x.part = r.part)).flatMap mK ++ cK)) ++ (BF (itR oK mK cK none ((r :: l).dropWhile fun x => decide (x.part = r.part))) ++ rest)) (C8 _ _ _) ?_
   exact Run.call (part_run hpn hg _) (Run.call h1 (Run.ret _ _))
  ·rw [List.flatten_cons, h2, ← List.append_assoc, List.takeWhile_append_dropWhile]
theorem parts_end : RunN .parts [] (.ok ([], [])) := Run.bind (C8 _ _ _) (Run.ret _ _)
theorem signal_run {x : Sgn} (hok : okS x = true) (rest : List Tok) : RunN .signal (BF (sgnK x) ++ rest) (.ok (x, rest)) := by
 simp only [okS, numB, Bool.and_eq_true, decide_eq_true_eq] at hok
 have ht : ∀ i : Bool, i = x.input → Run (nameG.bind fun s => ((Ah [58]).bind fun b => if b then numberG else .ret 2).bind fun n => (A1 [59]).bind fun _ => .ret (⟨s, i, n⟩ : Sgn))
   (tkn (1, x.name) :: (BF (if x.size = 2 then [] else [(3, [58]), (2, CN x.size)]) ++ (tkn (3, [59]) :: rest))) (.ok (x, rest)) := fun i hi => by
  subst hi
  refine run_name (x := tkn (1, x.name)) rfl hok.1 ?_
  by_cases h2 : x.size = 2
  ·rw [if_pos h2]
   refine Run.bind (a := 2) (l' := tkn (3, [59]) :: rest) (Ch (l := tkn (3, [59]) :: rest) rfl (Run.ret _ _)) (CZ (x := tkn (3, [59])) rfl ?_)
   have e : (⟨x.name, x.input, 2⟩ : Sgn) = x := by cases x; simp at h2; simp [h2]
   show Run (.ret (⟨x.name, x.input, 2⟩ : Sgn)) rest _
   rw [e]
   exact Run.ret _ _
  ·rw [if_neg h2]
   have e : DV (tkn (2, CN x.size)).text = x.size := numOf_numT hok.2.1
   have hn : Run numberG (tkn (2, CN x.size) :: tkn (3, [59]) :: rest) (.ok (x.size, tkn (3, [59]) :: rest)) := by
    have := run_number (q := fun n => .ret n) (x := tkn (2, CN x.size)) (l := tkn (3, [59]) :: rest) rfl (Run.ret _ _)
    rw [e] at this
    have h3 : numberG.bind (fun n => G.ret n) = numberG := by
     unfold numberG
     simp only [G.bind]
     congr 1
     funext o
     cases o with
     | none => rfl
     | some y => simp only; split <;> rfl
    rw [h3] at this
    exact this
   refine Run.bind (a := x.size) (l' := tkn (3, [59]) :: rest) (DO (x := tkn (3, [58])) rfl hn) (CZ (x := tkn (3, [59])) rfl ?_)
   exact Run.ret _ _
 cases hi : x.input with
 | true =>
  have e : BF (sgnK x) ++ rest = tkn (1, [105, 110, 112, 117, 116]) :: tkn (1, x.name) :: (BF (if x.size = 2 then [] else [(3, [58]), (2, CN x.size)]) ++ (tkn (3, [59]) :: rest)) := by simp [sgnK, BF, hi]
  rw [e]
  exact DO (x := tkn (1, [105, 110, 112, 117, 116])) rfl (Run.bind (Run.ret _ _) (ht true hi.symm))
 | false =>
  have e : BF (sgnK x) ++ rest = tkn (1, [111, 117, 116, 112, 117, 116]) :: tkn (1, x.name) :: (BF (if x.size = 2 then [] else [(3, [58]), (2, CN x.size)]) ++ (tkn (3, [59]) :: rest)) := by simp [sgnK, BF, hi]
  rw [e]
  exact Ch (l := tkn (1, [111, 117, 116, 112, 117, 116]) :: _) rfl (Run.bind (l' := tkn (1, x.name) :: _) (run_expect_t (t := [111, 117, 116, 112, 117, 116]) (ts := tkn (1, [111, 117, 116, 112, 117, 116]) :: tkn (1, x.name) :: _) rfl) (ht false hi.symm))
theorem sgn_head (x : Sgn) (rest : List Tok) : (Aw [105, 110, 112, 117, 116] ((BF (sgnK x) ++ rest).head?.map bare) || Aw [111, 117, 116, 112, 117, 116] ((BF (sgnK x) ++ rest).head?.map bare)) = true := by
 cases hi : x.input with
 | true => simp [sgnK, BF, hi, tkn, bare, Aw]
 | false => simp [sgnK, BF, hi, tkn, bare, Aw]
theorem sigs_run : ∀ {l : List Sgn} (_ : l.all okS = true) {rest : List Tok} (_ : (Aw [105, 110, 112, 117, 116] (rest.head?.map bare) || Aw [111, 117, 116, 112, 117, 116] (rest.head?.map bare)) = false), RunN .sigs (BF (l.flatMap sgnK) ++ rest) (.ok (l, rest))
 | [], _, rest, hr => by
  have h1 := C8 [105, 110, 112, 117, 116] [111, 117, 116, 112, 117, 116] rest
  rw [hr] at h1
  exact Run.bind h1 (Run.ret _ _)
 | x :: l, h, rest, hr => by
  rw [List.all_cons, Bool.and_eq_true] at h
  have e : BF ((x :: l).flatMap sgnK) ++ rest = BF (sgnK x) ++ (BF (l.flatMap sgnK) ++ rest) := by simp [BF]
  rw [e]
  have h1 := C8 [105, 110, 112, 117, 116] [111, 117, 116, 112, 117, 116] (BF (sgnK x) ++ (BF (l.flatMap sgnK) ++ rest))
  rw [sgn_head] at h1
  exact Run.bind h1 (Run.call (signal_run h.1 _) (Run.call (sigs_run h.2 hr) (Run.ret _ _)))
theorem itR_head (l : List Rqm) (rest : List Tok) (hr : (Aw [105, 110, 112, 117, 116] (rest.head?.map bare) || Aw [111, 117, 116, 112, 117, 116] (rest.head?.map bare)) = false) : (Aw [105, 110, 112, 117, 116] ((BF (itR oK mK cK none l) ++ rest).head?.map bare) || Aw [111, 117, 116, 112, 117, 116] ((BF (itR oK mK cK none l) ++ rest).head?.map bare)) = false := by
 cases l with
 | nil => exact hr
 | cons r l =>
  simp only [itR]
  rw [if_pos (show (none : Option (List UInt8)) ≠ some r.part from nofun)]
  simp [oK, BF, tkn, bare, Aw]
theorem spc_run2 {x : Spc} (hx : DE x = true) {l : List Rqm} (hl : l.all okRq = true) : RunN .spec (BF (spcK x) ++ BF (itR oK mK cK none l)) (.ok (⟨x.sigs, x.reqs ++ l⟩, [])) := by
 simp only [DE, Bool.and_eq_true] at hx
 obtain ⟨q1, h1, e1⟩ := parts_run _ l (Nat.le_refl _) hl parts_end
 rw [List.append_nil] at h1
 obtain ⟨q2, h2, e2⟩ := parts_run _ x.reqs (Nat.le_refl _) hx.2 h1
 rw [e1, List.flatten_nil, List.append_nil] at e2
 have e : BF (spcK x) ++ BF (itR oK mK cK none l) = BF (x.sigs.flatMap sgnK) ++ (BF (itR oK mK cK none x.reqs) ++ BF (itR oK mK cK none l)) := by simp [spcK, BF]
 rw [e]
 have hh : (Aw [105, 110, 112, 117, 116] ((BF (itR oK mK cK none l)).head?.map bare) || Aw [111, 117, 116, 112, 117, 116] ((BF (itR oK mK cK none l)).head?.map bare)) = false := by
  have := itR_head l [] rfl
  rwa [List.append_nil] at this
 refine Run.call (sigs_run hx.1 (itR_head x.reqs _ hh)) (Run.call h2 ?_)
 rw [e2]
 exact Run.ret _ _
theorem spc_run {x : Spc} (hx : DE x = true) : RunN .spec (BF (spcK x)) (.ok (x, [])) := by
 have := spc_run2 hx (l := []) rfl
 simpa [itR, BF] using this
theorem edt_run {e : Edt} (hok : okE e = true) (hz : e.kind = 2 → e.req = ⟨[], e.req.name, 0, DD⟩) : RunN .edit (BF (edtK e)) (.ok (e, [])) := by
 obtain ⟨k, r⟩ := e
 simp only [okE, edtK] at hok ⊢
 by_cases h2 : k = 2
 ·rw [if_pos h2] at hok ⊢
  simp only [Bool.and_eq_true] at hok
  have hz := hz h2
  simp only at hz
  have hd : Run (nameG.bind fun s => .ret (⟨2, ⟨[], s, 0, DD⟩⟩ : Edt)) [tkn (1, r.name)] (.ok (⟨2, ⟨[], r.name, 0, DD⟩⟩, [])) := run_name (x := tkn (1, r.name)) rfl hok.2 (Run.ret _ _)
  rw [← hz, ← h2] at hd
  exact DO (x := tkn (1, [100, 114, 111, 112])) rfl (by rw [if_pos rfl, ← h2]; exact hd)
 ·rw [if_neg h2] at hok ⊢
  simp only [Bool.and_eq_true, Bool.or_eq_true, decide_eq_true_eq] at hok
  have hr := req_run hok.2 (rest := []) (StopL.nil 0)
  rw [List.append_nil] at hr
  have ht : Run (nameG.bind fun p => .call .req fun q => .ret (⟨k, ⟨p, q.name, q.kind, q.formula⟩⟩ : Edt)) (tkn (1, r.part) :: BF (rqmK r)) (.ok (⟨k, r⟩, [])) :=
   run_name (x := tkn (1, r.part)) rfl hok.1.2 (Run.call hr (Run.ret _ _))
  by_cases h1 : k = 1
  ·subst h1
   have e : BF ((1, if (1 : Int) = 1 then [97, 100, 100] else [114, 101, 112, 108, 97, 99, 101]) :: (1, r.part) :: rqmK r) = tkn (1, [97, 100, 100]) :: tkn (1, r.part) :: BF (rqmK r) := by simp [BF]
   rw [e]
   exact Ch (l := tkn (1, [97, 100, 100]) :: _) rfl (DO (x := tkn (1, [97, 100, 100])) rfl (Run.bind (Run.ret _ _) ht))
  ·have h3 : k = 3 := by rcases hok.1.1 with h | h; exact absurd h h1; exact h
   subst h3
   have e : BF ((1, if (3 : Int) = 1 then [97, 100, 100] else [114, 101, 112, 108, 97, 99, 101]) :: (1, r.part) :: rqmK r) = tkn (1, [114, 101, 112, 108, 97, 99, 101]) :: tkn (1, r.part) :: BF (rqmK r) := by simp [BF]
   rw [e]
   refine Ch (l := tkn (1, [114, 101, 112, 108, 97, 99, 101]) :: _) rfl (Ch (l := tkn (1, [114, 101, 112, 108, 97, 99, 101]) :: _) rfl (Run.bind (a := 3) (l' := tkn (1, r.part) :: BF (rqmK r)) ?_ ht))
   exact Run.bind (l' := tkn (1, r.part) :: BF (rqmK r)) (run_expect_t (t := [114, 101, 112, 108, 97, 99, 101]) (ts := tkn (1, [114, 101, 112, 108, 97, 99, 101]) :: tkn (1, r.part) :: BF (rqmK r)) rfl) (Run.ret _ _)
end Go.Proofs.YtfcgdbmoncnibaaGreatDoor
namespace Go.Proofs.YtfcgdbmoncnibaaGreatDoor
set_option linter.unusedVariables false
theorem el_expect {n : Nat} {t : List UInt8} {l l' : List Tok} {u : Unit} (h : evG (evN n) (A1 t) l = some (.ok (u, l'))) : l'.length + 1 ≤ l.length := by
 simp only [A1, evG] at h
 cases l with
 | nil => simp [Aw, evG] at h
 | cons x l =>
  split at h
  ·simp only [evG] at h
   obtain ⟨_, rfl⟩ := An (n := n) h
   simp
  ·simp [evG] at h
theorem el_name {n : Nat} {l l' : List Tok} {s : List UInt8} (h : evG (evN n) nameG l = some (.ok (s, l'))) : l'.length + 1 ≤ l.length := by
 simp only [nameG, evG] at h
 cases l with
 | nil => simp [evG] at h
 | cons x l =>
  simp only [List.head?_cons, Option.map_some] at h
  cases hb : (decide ((bare x).1 = 1) && Bh (bare x).2) with
  | false => rw [hb] at h; simp [evG] at h
  | true =>
   rw [hb] at h
   simp only [if_true, evG] at h
   obtain ⟨_, rfl⟩ := An (n := n) h
   simp
theorem el_take {n : Nat} {tab : List (List UInt8 × Opr)} {l l' : List Tok} {o : Option Opr} (h : evG (evN n) (takeG tab) l = some (.ok (o, l'))) : (∃ p, o = some p ∧ l'.length + 1 ≤ l.length) ∨ (o = none ∧ l' = l) := by
 simp only [takeG, evG] at h
 cases l with
 | nil =>
  obtain ⟨rfl, rfl⟩ := An (n := n) h
  exact .inr ⟨rfl, rfl⟩
 | cons x l =>
  simp only [List.head?_cons, Option.map_some] at h
  cases hk : tab.lookup (bare x).2 with
  | none =>
   rw [hk] at h
   obtain ⟨rfl, rfl⟩ := An (n := n) h
   exact .inr ⟨rfl, rfl⟩
  | some p =>
   rw [hk] at h
   simp only [evG] at h
   obtain ⟨rfl, rfl⟩ := An (n := n) h
   exact .inl ⟨p, rfl, by simp⟩
def Sz : (nt : NT) → nt.T → Nat
 | .formula, f => szF f
 | .orN, f => szF f
 | .andN, f => szF f
 | .untilN, f => szF f
 | .unary, f => szF f
 | .primary, f => szF f
 | .orL, fs => szL fs + fs.length
 | .andL, fs => szL fs + fs.length
 | .req, r => szF r.formula + 3
 | .line, r => szF r.formula + 4
 | .lines, rs => szR rs
 | .part, rs => szR rs
 | .parts, ps => szR ps.flatten
 | .signal, _ => 1
 | .sigs, xs => xs.length
 | .spec, s => szS s
 | .edit, e => szF e.req.formula
theorem szR_app (l m : List Rqm) : szR (l ++ m) = szR l + szR m := by simp [szR]
theorem evN_sz : ∀ (n : Nat) (nt : NT) (l : List Tok) (v : nt.T) (l' : List Tok), evN n nt l = some (.ok (v, l')) → Sz nt v + l'.length ≤ l.length
 | 0, _, _, _, _, h => by cases h
 | n + 1, nt, l, v, l', h => by
  have ih := evN_sz n
  cases nt with
  | formula =>
   have hA : evG (evN n) (.call .orN fun a => (Ah [45, 62]).bind fun b => if b then .call .formula fun c => .ret ⟨7, [], 0, 0, [a, c]⟩ else .ret a) l = some (.ok (v, l')) := h
   obtain ⟨a, l1, hq1, hB⟩ := Au hA
   have oa := ih .orN _ _ _ hq1
   simp only [Sz] at oa
   obtain ⟨b, l2, hb, hC⟩ := Ag hB
   rcases Be hb with ⟨rfl, x, rfl, _⟩ | ⟨rfl, rfl⟩
   ·obtain ⟨c, l3, hq2, hD⟩ := Au (show evG (evN n) (.call .formula fun c => .ret ⟨7, [], 0, 0, [a, c]⟩) l2 = some (.ok (v, l')) from hC)
    have oc := ih .formula _ _ _ hq2
    obtain ⟨rfl, rfl⟩ := An hD
    simp only [Sz, szF, szL, List.length_cons] at oa oc ⊢
    omega
   ·obtain ⟨rfl, rfl⟩ := An (show evG (evN n) (.ret a) l2 = some (.ok (v, l')) from hC)
    exact oa
  | orN =>
   have hA : evG (evN n) (.call .andN fun a => .call .orL fun l => .ret (nodeF 6 (a :: l))) l = some (.ok (v, l')) := h
   obtain ⟨a, l1, hq1, hB⟩ := Au hA
   have oa := ih .andN _ _ _ hq1
   obtain ⟨k, l2, hq2, hC⟩ := Au hB
   have ok := ih .orL _ _ _ hq2
   obtain ⟨rfl, rfl⟩ := An hC
   cases k with
   | nil =>
    show szF a + _ ≤ _
    simp only [Sz, szL, List.length_nil] at oa ok
    omega
   | cons d k =>
    show szF (.mk 6 [] 0 0 (a :: d :: k)) + _ ≤ _
    simp only [Sz, szF, szL, List.length_cons] at oa ok ⊢
    omega
  | orL =>
   have hA : evG (evN n) ((Ah [124]).bind fun b => if b then .call .andN fun a => .call .orL fun l => .ret (a :: l) else .ret []) l = some (.ok (v, l')) := h
   obtain ⟨b, l2, hb, hB⟩ := Ag hA
   rcases Be hb with ⟨rfl, x, rfl, _⟩ | ⟨rfl, rfl⟩
   ·obtain ⟨a, l3, hq1, hC⟩ := Au (show evG (evN n) (.call .andN fun a => .call .orL fun l => .ret (a :: l)) l2 = some (.ok (v, l')) from hB)
    have oa := ih .andN _ _ _ hq1
    obtain ⟨k, l4, hq2, hD⟩ := Au hC
    have ok := ih .orL _ _ _ hq2
    obtain ⟨rfl, rfl⟩ := An hD
    simp only [Sz, szL, List.length_cons] at oa ok ⊢
    omega
   ·obtain ⟨rfl, rfl⟩ := An (show evG (evN n) (.ret []) l2 = some (.ok (v, l')) from hB)
    simp [Sz, szL]
  | andN =>
   have hA : evG (evN n) (.call .untilN fun a => .call .andL fun l => .ret (nodeF 5 (a :: l))) l = some (.ok (v, l')) := h
   obtain ⟨a, l1, hq1, hB⟩ := Au hA
   have oa := ih .untilN _ _ _ hq1
   obtain ⟨k, l2, hq2, hC⟩ := Au hB
   have ok := ih .andL _ _ _ hq2
   obtain ⟨rfl, rfl⟩ := An hC
   cases k with
   | nil =>
    show szF a + _ ≤ _
    simp only [Sz, szL, List.length_nil] at oa ok
    omega
   | cons d k =>
    show szF (.mk 5 [] 0 0 (a :: d :: k)) + _ ≤ _
    simp only [Sz, szF, szL, List.length_cons] at oa ok ⊢
    omega
  | andL =>
   have hA : evG (evN n) ((Ah [38]).bind fun b => if b then .call .untilN fun a => .call .andL fun l => .ret (a :: l) else .ret []) l = some (.ok (v, l')) := h
   obtain ⟨b, l2, hb, hB⟩ := Ag hA
   rcases Be hb with ⟨rfl, x, rfl, _⟩ | ⟨rfl, rfl⟩
   ·obtain ⟨a, l3, hq1, hC⟩ := Au (show evG (evN n) (.call .untilN fun a => .call .andL fun l => .ret (a :: l)) l2 = some (.ok (v, l')) from hB)
    have oa := ih .untilN _ _ _ hq1
    obtain ⟨k, l4, hq2, hD⟩ := Au hC
    have ok := ih .andL _ _ _ hq2
    obtain ⟨rfl, rfl⟩ := An hD
    simp only [Sz, szL, List.length_cons] at oa ok ⊢
    omega
   ·obtain ⟨rfl, rfl⟩ := An (show evG (evN n) (.ret []) l2 = some (.ok (v, l')) from hB)
    simp [Sz, szL]
  | untilN =>
   have hA : evG (evN n) (.call .unary fun a => (takeG infixT).bind fun
    | none => .ret a
    | some o => (B8 o).bind fun n => .call .untilN fun c => .ret ⟨o.op, [], n.getD o.val, 0, [a, c]⟩) l = some (.ok (v, l')) := h
   obtain ⟨a, l1, hq1, hB⟩ := Au hA
   have oa := ih .unary _ _ _ hq1
   obtain ⟨o, l2, hb, hC⟩ := Ag hB
   rcases el_take hb with ⟨p, rfl, c2⟩ | ⟨rfl, rfl⟩
   ·obtain ⟨k, l3, hk, hD⟩ := Ag (show evG (evN n) ((B8 p).bind fun n => .call .untilN fun c => .ret ⟨p.op, [], n.getD p.val, 0, [a, c]⟩) l2 = some (.ok (v, l')) from hC)
    have c3 := (A9 hk).length_le
    obtain ⟨c, l4, hq2, hE⟩ := Au hD
    have oc := ih .untilN _ _ _ hq2
    obtain ⟨rfl, rfl⟩ := An hE
    simp only [Sz, szF, szL] at oa oc ⊢
    omega
   ·obtain ⟨rfl, rfl⟩ := An (show evG (evN n) (.ret a) l2 = some (.ok (v, l')) from hC)
    exact oa
  | unary =>
   have hA : evG (evN n) ((takeG prefixT).bind fun
    | none => .call .primary .ret
    | some o => (B8 o).bind fun n => .call .unary fun a => .ret (match n with
     | some n => ⟨o.indexed, [], o.val, n, [a]⟩
     | none => ⟨o.op, [], o.val, 0, [a]⟩)) l = some (.ok (v, l')) := h
   obtain ⟨o, l2, hb, hC⟩ := Ag hA
   rcases el_take hb with ⟨p, rfl, c2⟩ | ⟨rfl, rfl⟩
   ·obtain ⟨k, l3, hk, hD⟩ := Ag (show evG (evN n) ((B8 p).bind fun n => .call .unary fun a => .ret (match n with
     | some n => ⟨p.indexed, [], p.val, n, [a]⟩
     | none => ⟨p.op, [], p.val, 0, [a]⟩)) l2 = some (.ok (v, l')) from hC)
    have c3 := (A9 hk).length_le
    obtain ⟨c, l4, hq2, hE⟩ := Au hD
    have oc := ih .unary _ _ _ hq2
    obtain ⟨e1, rfl⟩ := An hE
    have hv : szF v = szF c + 1 := by
     rw [e1]
     cases k <;> simp [szF, szL]
    show szF v + _ ≤ _
    simp only [Sz] at oc
    omega
   ·obtain ⟨a, l3, hq1, hD⟩ := Au (show evG (evN n) (.call .primary .ret) l2 = some (.ok (v, l')) from hC)
    obtain ⟨rfl, rfl⟩ := An hD
    exact ih .primary _ _ _ hq1
  | primary =>
   have hA : evG (evN n) ((Ah [116, 114, 117, 101]).bind fun b => if b then .ret ⟨1, [], 0, 0, []⟩ else
    (Ah [102, 97, 108, 115, 101]).bind fun b => if b then .ret ⟨2, [], 0, 0, []⟩ else
    (Ah [40]).bind fun b => if b then .call .formula fun f => (A1 [41]).bind fun _ => .ret f else
    nameG.bind fun s => (Ah [61]).bind fun b => if b then numberG.bind fun n => .ret (isF s n) else
    (Ah [33, 61]).bind fun b => if b then numberG.bind fun n => .ret (notF (isF s n)) else .ret (isF s 1)) l = some (.ok (v, l')) := h
   obtain ⟨b, l1, hb1, hB⟩ := Ag hA
   rcases Be hb1 with ⟨rfl, x, rfl, _⟩ | ⟨rfl, rfl⟩
   ·obtain ⟨rfl, rfl⟩ := An (show evG (evN n) (.ret ⟨1, [], 0, 0, []⟩) l1 = some (.ok (v, l')) from hB)
    simp [Sz, szF, szL]; omega
   replace hB : evG (evN n) ((Ah [102, 97, 108, 115, 101]).bind fun b => if b then .ret ⟨2, [], 0, 0, []⟩ else
    (Ah [40]).bind fun b => if b then .call .formula fun f => (A1 [41]).bind fun _ => .ret f else
    nameG.bind fun s => (Ah [61]).bind fun b => if b then numberG.bind fun n => .ret (isF s n) else
    (Ah [33, 61]).bind fun b => if b then numberG.bind fun n => .ret (notF (isF s n)) else .ret (isF s 1)) l1 = some (.ok (v, l')) := hB
   obtain ⟨b, l2, hb2, hC⟩ := Ag hB
   rcases Be hb2 with ⟨rfl, x, rfl, _⟩ | ⟨rfl, rfl⟩
   ·obtain ⟨rfl, rfl⟩ := An (show evG (evN n) (.ret ⟨2, [], 0, 0, []⟩) l2 = some (.ok (v, l')) from hC)
    simp [Sz, szF, szL]; omega
   replace hC : evG (evN n) ((Ah [40]).bind fun b => if b then .call .formula fun f => (A1 [41]).bind fun _ => .ret f else
    nameG.bind fun s => (Ah [61]).bind fun b => if b then numberG.bind fun n => .ret (isF s n) else
    (Ah [33, 61]).bind fun b => if b then numberG.bind fun n => .ret (notF (isF s n)) else .ret (isF s 1)) l2 = some (.ok (v, l')) := hC
   obtain ⟨b, l3, hb3, hD⟩ := Ag hC
   rcases Be hb3 with ⟨rfl, x, rfl, hx⟩ | ⟨rfl, rfl⟩
   ·obtain ⟨f, l4, hq1, hE⟩ := Au (show evG (evN n) (.call .formula fun f => (A1 [41]).bind fun _ => .ret f) l3 = some (.ok (v, l')) from hD)
    have of := ih .formula _ _ _ hq1
    obtain ⟨_, l5, hq2, hF⟩ := Ag hE
    have c5 := el_expect hq2
    obtain ⟨rfl, rfl⟩ := An hF
    simp only [Sz, List.length_cons] at of ⊢
    omega
   replace hD : evG (evN n) (nameG.bind fun s => (Ah [61]).bind fun b => if b then numberG.bind fun n => .ret (isF s n) else
    (Ah [33, 61]).bind fun b => if b then numberG.bind fun n => .ret (notF (isF s n)) else .ret (isF s 1)) l3 = some (.ok (v, l')) := hD
   obtain ⟨s, l4, hn, hE⟩ := Ag hD
   have c4 := el_name hn
   obtain ⟨b, l5, hb5, hF⟩ := Ag hE
   rcases Be hb5 with ⟨rfl, x, rfl, hx⟩ | ⟨rfl, rfl⟩
   ·obtain ⟨k, l6, hk, hG⟩ := Ag (show evG (evN n) (numberG.bind fun n => .ret (isF s n)) l5 = some (.ok (v, l')) from hF)
    have c6 := (A9 hk).length_le
    obtain ⟨rfl, rfl⟩ := An hG
    simp only [List.length_cons] at c4
    simp [Sz, isF, szF, szL]; omega
   replace hF : evG (evN n) ((Ah [33, 61]).bind fun b => if b then numberG.bind fun n => .ret (notF (isF s n)) else .ret (isF s 1)) l5 = some (.ok (v, l')) := hF
   obtain ⟨b, l6, hb6, hG⟩ := Ag hF
   rcases Be hb6 with ⟨rfl, x, rfl, hx⟩ | ⟨rfl, rfl⟩
   ·obtain ⟨k, l7, hk, hH⟩ := Ag (show evG (evN n) (numberG.bind fun n => .ret (notF (isF s n))) l6 = some (.ok (v, l')) from hG)
    have c7 := (A9 hk).length_le
    obtain ⟨rfl, rfl⟩ := An hH
    simp only [List.length_cons] at c4
    simp [Sz, isF, notF, szF, szL]; omega
   ·obtain ⟨rfl, rfl⟩ := An (show evG (evN n) (.ret (isF s 1)) l6 = some (.ok (v, l')) from hG)
    simp [Sz, isF, szF, szL]; omega
  | req =>
   have hA : evG (evN n) ((Ah [97, 115, 115, 117, 109, 101]).bind fun b => (if b then .ret 1 else (A1 [103, 117, 97, 114, 97, 110, 116, 101, 101]).bind fun _ => .ret 2).bind fun k =>
    nameG.bind fun s => (A1 [58]).bind fun _ => .call .formula fun f => .ret ⟨[], s, k, f⟩) l = some (.ok (v, l')) := h
   obtain ⟨b, l1, hb1, hB⟩ := Ag hA
   obtain ⟨k, l2, hk, hC⟩ := Ag hB
   have hkk : l2.length + 1 ≤ l.length := by
    rcases Be hb1 with ⟨rfl, x, rfl, _⟩ | ⟨rfl, rfl⟩
    ·have := (A9 hk).length_le
     simp only [List.length_cons]; omega
    ·obtain ⟨_, l3, he, hr⟩ := Ag (show evG (evN n) ((A1 [103, 117, 97, 114, 97, 110, 116, 101, 101]).bind fun _ => .ret 2) l1 = some (.ok (k, l2)) from hk)
     have := el_expect he
     have := (A9 hr).length_le
     omega
   obtain ⟨s, l3, hn, hD⟩ := Ag hC
   have c3 := el_name hn
   obtain ⟨_, l4, he, hE⟩ := Ag hD
   have c4 := el_expect he
   obtain ⟨f, l5, hq1, hF⟩ := Au hE
   have of := ih .formula _ _ _ hq1
   obtain ⟨rfl, rfl⟩ := An hF
   simp only [Sz] at of ⊢
   omega
  | line =>
   have hA : evG (evN n) (.call .req fun r => (A1 [59]).bind fun _ => .ret r) l = some (.ok (v, l')) := h
   obtain ⟨r, l1, hq1, hB⟩ := Au hA
   obtain ⟨_, l2, he, hC⟩ := Ag hB
   have c2 := el_expect he
   obtain ⟨rfl, rfl⟩ := An hC
   have := ih .req _ _ _ hq1
   simp only [Sz] at this ⊢
   omega
  | lines =>
   have hA : evG (evN n) ((sees2 [97, 115, 115, 117, 109, 101] [103, 117, 97, 114, 97, 110, 116, 101, 101]).bind fun b => if b then .call .line fun r => .call .lines fun l => .ret (r :: l) else .ret []) l = some (.ok (v, l')) := h
   obtain ⟨b, l1, hb, hB⟩ := Ag hA
   have s1 := (A9 hb).length_le
   cases b with
   | true =>
    obtain ⟨r, l2, hq1, hC⟩ := Au (show evG (evN n) (.call .line fun r => .call .lines fun l => .ret (r :: l)) l1 = some (.ok (v, l')) from hB)
    have p1 := ih .line _ _ _ hq1
    obtain ⟨k, l3, hq2, hD⟩ := Au hC
    have p2 := ih .lines _ _ _ hq2
    obtain ⟨rfl, rfl⟩ := An hD
    simp only [Sz, szR, List.map_cons, List.sum_cons] at p1 p2 ⊢
    omega
   | false =>
    obtain ⟨rfl, rfl⟩ := An (show evG (evN n) (.ret []) l1 = some (.ok (v, l')) from hB)
    simp only [Sz, szR, List.map_nil, List.sum_nil]; omega
  | part =>
   have hA : evG (evN n) ((A1 [112, 97, 114, 116]).bind fun _ => nameG.bind fun s => (A1 [123]).bind fun _ => .call .lines fun l => (A1 [125]).bind fun _ => .ret (l.map fun r => ⟨s, r.name, r.kind, r.formula⟩)) l = some (.ok (v, l')) := h
   obtain ⟨_, l1, h1, hB⟩ := Ag hA
   have s1 := (A9 h1).length_le
   obtain ⟨s, l2, hn, hC⟩ := Ag hB
   have s2 := (A9 hn).length_le
   obtain ⟨_, l3, h3, hD⟩ := Ag hC
   have s3 := (A9 h3).length_le
   obtain ⟨k, l4, hq1, hE⟩ := Au hD
   have p1 := ih .lines _ _ _ hq1
   obtain ⟨_, l5, h5, hF⟩ := Ag hE
   have s5 := (A9 h5).length_le
   obtain ⟨rfl, rfl⟩ := An hF
   simp only [Sz, szR, List.map_map] at p1 ⊢
   simp only [Function.comp_def]
   omega
  | parts =>
   have hA : evG (evN n) ((sees2 [112, 97, 114, 116] [112, 97, 114, 116]).bind fun b => if b then .call .part fun l => .call .parts fun m => .ret (l :: m) else .ret []) l = some (.ok (v, l')) := h
   obtain ⟨b, l1, hb, hB⟩ := Ag hA
   have s1 := (A9 hb).length_le
   cases b with
   | true =>
    obtain ⟨r, l2, hq1, hC⟩ := Au (show evG (evN n) (.call .part fun l => .call .parts fun m => .ret (l :: m)) l1 = some (.ok (v, l')) from hB)
    have p1 := ih .part _ _ _ hq1
    obtain ⟨k, l3, hq2, hD⟩ := Au hC
    have p2 := ih .parts _ _ _ hq2
    obtain ⟨rfl, rfl⟩ := An hD
    simp only [Sz, List.flatten_cons, szR_app] at p1 p2 ⊢
    omega
   | false =>
    obtain ⟨rfl, rfl⟩ := An (show evG (evN n) (.ret []) l1 = some (.ok (v, l')) from hB)
    simp only [Sz, szR, List.flatten_nil, List.map_nil, List.sum_nil]; omega
  | signal =>
   have hA : evG (evN n) ((Ah [105, 110, 112, 117, 116]).bind fun i => (if i then .ret () else A1 [111, 117, 116, 112, 117, 116]).bind fun _ => nameG.bind fun s =>
    ((Ah [58]).bind fun b => if b then numberG else .ret 2).bind fun n => (A1 [59]).bind fun _ => .ret ⟨s, i, n⟩) l = some (.ok (v, l')) := h
   obtain ⟨i, l1, h1, hB⟩ := Ag hA
   have s1 := (A9 h1).length_le
   obtain ⟨_, l2, h2, hC⟩ := Ag hB
   have s2 := (A9 h2).length_le
   obtain ⟨s, l3, hn, hD⟩ := Ag hC
   have s3 := el_name hn
   obtain ⟨k, l4, hk, hE⟩ := Ag hD
   have s4 := (A9 hk).length_le
   obtain ⟨_, l5, h5, hF⟩ := Ag hE
   have s5 := (A9 h5).length_le
   obtain ⟨rfl, rfl⟩ := An hF
   simp only [Sz]; omega
  | sigs =>
   have hA : evG (evN n) ((sees2 [105, 110, 112, 117, 116] [111, 117, 116, 112, 117, 116]).bind fun b => if b then .call .signal fun x => .call .sigs fun l => .ret (x :: l) else .ret []) l = some (.ok (v, l')) := h
   obtain ⟨b, l1, hb, hB⟩ := Ag hA
   have s1 := (A9 hb).length_le
   cases b with
   | true =>
    obtain ⟨r, l2, hq1, hC⟩ := Au (show evG (evN n) (.call .signal fun x => .call .sigs fun l => .ret (x :: l)) l1 = some (.ok (v, l')) from hB)
    have p1 := ih .signal _ _ _ hq1
    obtain ⟨k, l3, hq2, hD⟩ := Au hC
    have p2 := ih .sigs _ _ _ hq2
    obtain ⟨rfl, rfl⟩ := An hD
    simp only [Sz, List.length_cons] at p1 p2 ⊢
    omega
   | false =>
    obtain ⟨rfl, rfl⟩ := An (show evG (evN n) (.ret []) l1 = some (.ok (v, l')) from hB)
    simp only [Sz, List.length_nil]; omega
  | spec =>
   have hA : evG (evN n) (.call .sigs fun s => .call .parts fun r => .ret ⟨s, r.flatten⟩) l = some (.ok (v, l')) := h
   obtain ⟨x, l1, hq1, hB⟩ := Au hA
   have p1 := ih .sigs _ _ _ hq1
   obtain ⟨k, l2, hq2, hC⟩ := Au hB
   have p2 := ih .parts _ _ _ hq2
   obtain ⟨rfl, rfl⟩ := An hC
   simp only [Sz, szS] at p1 p2 ⊢
   omega
  | edit =>
   have hA : evG (evN n) ((Ah [100, 114, 111, 112]).bind fun b => if b then nameG.bind fun s => .ret ⟨2, ⟨[], s, 0, DD⟩⟩ else
    (Ah [97, 100, 100]).bind fun b => (if b then .ret 1 else (A1 [114, 101, 112, 108, 97, 99, 101]).bind fun _ => .ret 3).bind fun k =>
    nameG.bind fun p => .call .req fun r => .ret ⟨k, ⟨p, r.name, r.kind, r.formula⟩⟩) l = some (.ok (v, l')) := h
   obtain ⟨b, l1, h1, hB⟩ := Ag hA
   have s1 := (A9 h1).length_le
   cases b with
   | true =>
    obtain ⟨s, l2, hn, hC⟩ := Ag (show evG (evN n) (nameG.bind fun s => .ret ⟨2, ⟨[], s, 0, DD⟩⟩) l1 = some (.ok (v, l')) from hB)
    have := el_name hn
    obtain ⟨rfl, rfl⟩ := An hC
    simp only [Sz, DD, szF, szL]; omega
   | false =>
    replace hB : evG (evN n) ((Ah [97, 100, 100]).bind fun b => (if b then .ret 1 else (A1 [114, 101, 112, 108, 97, 99, 101]).bind fun _ => .ret 3).bind fun k =>
     nameG.bind fun p => .call .req fun r => .ret ⟨k, ⟨p, r.name, r.kind, r.formula⟩⟩) l1 = some (.ok (v, l')) := hB
    obtain ⟨b, l2, h2, hC⟩ := Ag hB
    have s2 := (A9 h2).length_le
    obtain ⟨k, l3, hk, hD⟩ := Ag hC
    have s3 := (A9 hk).length_le
    obtain ⟨p, l4, hn, hE⟩ := Ag hD
    have s4 := (A9 hn).length_le
    obtain ⟨r, l5, hq1, hF⟩ := Au hE
    have p1 := ih .req _ _ _ hq1
    obtain ⟨rfl, rfl⟩ := An hF
    simp only [Sz] at p1 ⊢
    omega
theorem run_sz {nt : NT} {l l' : List Tok} {v : nt.T} (h : RunN nt l (.ok (v, l'))) : Sz nt v + l'.length ≤ l.length := by
 obtain ⟨n, hn⟩ := h
 exact evN_sz (n + 1) nt l v l' hn
end Go.Proofs.YtfcgdbmoncnibaaGreatDoor
