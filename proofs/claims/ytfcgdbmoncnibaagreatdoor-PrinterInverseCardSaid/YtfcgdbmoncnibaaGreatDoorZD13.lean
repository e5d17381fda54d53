/- The printer's plain law: the tokens of a formula are parsed to it. The printer's plain law: a formula's tokens are parsed to it, whatever it is. The printer's plain law: what is parsed can be printed, and has been read from enough parentheses. The printer's plain law: specifications and edits. The printer's plain law: what the tokens of specifications and edits are parsed to. The printer's plain law: what is parsed is no greater than its tokens. The reference: names. The reference printer: numbers, operators, signs. Conditions: none. -/
import Derived.Test.YtfcgdbmoncnibaaGreatDoorZD12

namespace Go.Proofs.YtfcgdbmoncnibaaGreatDoor
set_option linter.unusedVariables false
variable {mk : Prop} [MK mk]
def tkn (b : BT) : Tok := ⟨b.1, b.2, 0⟩
abbrev BD (bs : List BT) : List Tok := bs.map tkn
theorem toks_bare (bs : List BT) : (BD bs).map bare = bs := by
 rw [BD, List.map_map, show (bare ∘ tkn) = id from rfl, List.map_id]
def stopB (n : Nat) (b : BT) : Bool := !Ax [61] (some b) && !Ax [33, 61] (some b) && (decide (4 ≤ n) || ((infixT.lookup b.2).isNone && (decide (3 ≤ n) || (!Ax [38] (some b) && (decide (2 ≤ n) || (!Ax [124] (some b) && (decide (1 ≤ n) || !Ax [45, 62] (some b))))))))
def StopL (n : Nat) (r : List Tok) : Prop := ∀ x, r.head? = some x → stopB n (bare x) = true
theorem StopL.nil (n : Nat) : StopL n [] := fun x h => by cases h
theorem StopL.cons {n : Nat} {x : Tok} {r : List Tok} (h : stopB n (bare x) = true) : StopL n (x :: r) := fun y hy => by cases hy; exact h
theorem StopL.mono {n m : Nat} (hnm : n ≤ m) {r : List Tok} (h : StopL n r) : StopL m r := by
 intro x hx
 have := h x hx
 simp only [stopB, Bool.and_eq_true, Bool.or_eq_true, decide_eq_true_eq] at this ⊢
 obtain ⟨h1, h2⟩ := this
 refine ⟨h1, ?_⟩
 rcases h2 with h2 | ⟨h2, h3⟩
 ·left; omega
 ·right; refine ⟨h2, ?_⟩
  rcases h3 with h3 | ⟨h3, h4⟩
  ·left; omega
  ·right; refine ⟨h3, ?_⟩
   rcases h4 with h4 | ⟨h4, h5⟩
   ·left; omega
   ·right; refine ⟨h4, ?_⟩
    rcases h5 with h5 | h5
    ·left; omega
    ·right; exact h5
theorem sees_of {s : List UInt8} {r : List Tok} (h : ∀ x, r.head? = some x → Ax s (some (bare x)) = false) : Ax s (r.head?.map bare) = false := by
 cases hr : r.head? with
 | none => rfl
 | some x => exact h x hr
section
variable {n : Nat} {r : List Tok} (h : StopL n r)
include h
theorem StopL.eq : Ax [61] (r.head?.map bare) = false := sees_of fun x hx => by
 have := h x hx
 simp only [stopB, Bool.and_eq_true, Bool.not_eq_true'] at this
 exact this.1.1
theorem StopL.ne : Ax [33, 61] (r.head?.map bare) = false := sees_of fun x hx => by
 have := h x hx
 simp only [stopB, Bool.and_eq_true, Bool.not_eq_true'] at this
 exact this.1.2
theorem StopL.inf (hn : n ≤ 3) : ∀ x, r.head? = some x → infixT.lookup x.text = none := fun x hx => by
 have := h x hx
 simp only [stopB, Bool.and_eq_true, Bool.or_eq_true, decide_eq_true_eq, Option.isNone_iff_eq_none] at this
 rcases this.2 with h2 | ⟨h2, _⟩
 ·omega
 ·exact h2
theorem StopL.and (hn : n ≤ 2) : Ax [38] (r.head?.map bare) = false := sees_of fun x hx => by
 have := h x hx
 simp only [stopB, Bool.and_eq_true, Bool.or_eq_true, decide_eq_true_eq, Bool.not_eq_true'] at this
 rcases this.2 with h2 | ⟨h2, h3 | ⟨h3, _⟩⟩
 ·omega
 ·omega
 ·exact h3
theorem StopL.or (hn : n ≤ 1) : Ax [124] (r.head?.map bare) = false := sees_of fun x hx => by
 have := h x hx
 simp only [stopB, Bool.and_eq_true, Bool.or_eq_true, decide_eq_true_eq, Bool.not_eq_true'] at this
 rcases this.2 with h2 | ⟨h2, h3 | ⟨h3, h4 | ⟨h4, _⟩⟩⟩
 ·omega
 ·omega
 ·omega
 ·exact h4
theorem StopL.imp (hn : n = 0) : Ax [45, 62] (r.head?.map bare) = false := sees_of fun x hx => by
 have := h x hx
 simp only [stopB, Bool.and_eq_true, Bool.or_eq_true, decide_eq_true_eq, Bool.not_eq_true'] at this
 rcases this.2 with h2 | ⟨h2, h3 | ⟨h3, h4 | ⟨h4, h5 | h5⟩⟩⟩
 ·omega
 ·omega
 ·omega
 ·omega
 ·exact h5
end
def RunL : Nat → List Tok → Fml → List Tok → Prop
 | 0, l, f, r => RunN .formula l (.ok (f, r))
 | 1, l, f, r => RunN .orN l (.ok (f, r))
 | 2, l, f, r => RunN .andN l (.ok (f, r))
 | 3, l, f, r => RunN .untilN l (.ok (f, r))
 | _, l, f, r => RunN .unary l (.ok (f, r))
theorem climb1 : ∀ {n : Nat} {l r : List Tok} {f : Fml}, n ≤ 3 → RunL (n + 1) l f r → StopL n r → RunL n l f r
 | 0, _, _, _, _, h, s => up_imp h (s.imp rfl)
 | 1, _, _, _, _, h, s => up_or h (s.or (Nat.le_refl _))
 | 2, _, _, _, _, h, s => up_and h (s.and (Nat.le_refl _))
 | 3, _, _, _, _, h, s => up_until h (s.inf (Nat.le_refl _))
 | n + 4, _, _, _, hn, _, _ => by omega
theorem climb : ∀ (d n : Nat) {l r : List Tok} {f : Fml}, n + d ≤ 4 → RunL (n + d) l f r → StopL n r → RunL n l f r
 | 0, _, _, _, _, _, h, _ => h
 | d + 1, n, l, r, f, hd, h, s => climb1 (by omega) (climb d (n + 1) (by omega) (by rw [show n + 1 + d = n + (d + 1) by omega]; exact h) (s.mono (by omega))) s
theorem ix0 {o : Opr} (r : List Tok) (h : o.indexed = 0) : Run (DX o) r (.ok (none, r)) := by
 unfold DX; rw [if_pos h]; exact Run.ret _ _
theorem ixNo {o : Opr} {r : List Tok} (h : Ax [91] (r.head?.map bare) = false) : Run (DX o) r (.ok (none, r)) := by
 unfold DX
 split
 ·exact Run.ret _ _
 ·exact Ck h (Run.ret _ _)
theorem ixYes {o : Opr} {v : Int} {r : List Tok} (h : o.indexed ≠ 0) (hv : 0 ≤ v) : Run (DX o) (tkn (3, [91]) :: tkn (2, CL v) :: tkn (3, [93]) :: r) (.ok (some v, r)) := by
 unfold DX
 rw [if_neg h]
 have e : Dp (tkn (2, CL v)).text = v := numOf_numT hv
 have := run_number (q := fun n => (B5 [93]).bind fun _ => .ret (some n)) (x := tkn (2, CL v)) (l := tkn (3, [93]) :: r) rfl (CW rfl (Run.ret _ _))
 rw [e] at this
 exact DN rfl this
theorem un_bin {l r1 r2 r : List Tok} {t1 : Tok} {o : Opr} {n : Option Int} {f g : Fml} (h1 : RunN .unary l (.ok (f, t1 :: r1))) (ht : infixT.lookup t1.text = some o) (hi : Run (DX o) r1 (.ok (n, r2))) (h2 : RunN .untilN r2 (.ok (g, r))) :
  RunN .untilN l (.ok (⟨o.op, [], n.getD o.val, 0, [f, g]⟩, r)) :=
 Run.call h1 (run_take ht (hi.bind (Run.call h2 (Run.ret _ _))))
theorem un_pre {r1 r2 r : List Tok} {t1 : Tok} {o : Opr} {n : Option Int} {g : Fml} (ht : prefixT.lookup t1.text = some o) (hi : Run (DX o) r1 (.ok (n, r2))) (h2 : RunN .unary r2 (.ok (g, r))) :
  RunN .unary (t1 :: r1) (.ok (match n with | some n => ⟨o.indexed, [], o.val, n, [g]⟩ | none => ⟨o.op, [], o.val, 0, [g]⟩, r)) := by
 refine run_take ht (hi.bind (Run.call h2 ?_))
 cases n <;> exact Run.ret _ _
theorem lookup_keyS {β : Type} {a : List UInt8} {b : β} : ∀ {l : List (List UInt8 × β)}, l.lookup a = some b → a ∈ l.map (·.1)
 | [], h => by cases h
 | (k, v) :: l, h => by
  rw [List.lookup_cons] at h
  by_cases hk : a = k
  ·simp [hk]
  ·rw [show (a == k) = false by simpa using hk] at h
   have := lookup_keyS (l := l) h
   simp only [List.map_cons, List.mem_cons]
   exact .inr this
theorem name_pre {nm : List UInt8} (h : Ba nm = true) : prefixT.lookup nm = none := by
 cases ho : prefixT.lookup nm with
 | none => rfl
 | some o =>
  have := lookup_keyS ho
  obtain ⟨_, _, h3, _⟩ := BW h
  simp only [prefixT, List.map_cons, List.map_nil, List.mem_cons, List.not_mem_nil, or_false] at this
  rcases this with rfl | rfl | rfl | rfl | rfl | rfl | rfl | rfl <;> exact absurd h3 (by decide)
theorem name_sees {nm s : List UInt8} (h : Ba nm = true) (hs : s ∈ keysL ∨ A9 (s.getD 0 0) = false) : Ax s (some (1, nm)) = false := by
 obtain ⟨_, _, h3, _, h5⟩ := BW h
 have : nm ≠ s := by
  rintro rfl
  rcases hs with hs | hs
  ·exact h5 hs
  ·rw [h3] at hs; cases hs
 simp [Ax, this]
theorem run_word {w : List UInt8} {r : List Tok} {f : Fml} (hp : prefixT.lookup w = none) (h : RunN .primary (tkn (1, w) :: r) (.ok (f, r))) : RunN .unary (tkn (1, w) :: r) (.ok (f, r)) :=
 run_take_no (fun z hz => by cases hz; exact hp) (Run.call h (Run.ret _ _))
theorem run_true (r : List Tok) : RunN .unary (tkn (1, [116, 114, 117, 101]) :: r) (.ok (⟨1, [], 0, 0, []⟩, r)) := run_word (by decide) (DN rfl (Run.ret _ _))
theorem run_false (r : List Tok) : RunN .unary (tkn (1, [102, 97, 108, 115, 101]) :: r) (.ok (⟨2, [], 0, 0, []⟩, r)) := run_word (by decide) (Ck rfl (DN rfl (Run.ret _ _)))
theorem run_is {nm : List UInt8} {v : Int} {r : List Tok} (h : Ba nm = true) (hv : 0 ≤ v) (hr : StopL 4 r) : RunN .unary (BD ((1, nm) :: if v = 1 then [] else [(3, [61]), (2, CL v)]) ++ r) (.ok (⟨3, nm, v, 0, []⟩, r)) := by
 refine run_take_no (fun z hz => by cases hz; exact name_pre h) (Run.call (nt := .primary) (l' := r) (v := (⟨3, nm, v, 0, []⟩ : Fml)) ?_ (Run.ret _ _))
 refine Ck (name_sees h (.inl (by decide))) (Ck (name_sees h (.inl (by decide))) (Ck (name_sees h (.inr (by decide))) ?_))
 refine run_name (x := tkn (1, nm)) rfl h ?_
 by_cases h1 : v = 1
 ·rw [if_pos h1]
  subst h1
  exact Ck hr.eq (Ck hr.ne (Run.ret _ _))
 ·rw [if_neg h1]
  refine DN (x := tkn (3, [61])) rfl ?_
  have e : Dp (tkn (2, CL v)).text = v := numOf_numT hv
  have := run_number (q := fun n => .ret (isF nm n)) (x := tkn (2, CL v)) (l := r) rfl (Run.ret _ _)
  rw [e] at this
  exact this
def RunsF (f : Fml) : Prop := ∀ (n : Nat) (r : List Tok), n ≤ 4 → StopL n r → RunL n (BD (tkF n f) ++ r) f r
theorem tk_head : ∀ (m : Nat) (f : Fml) (n : Nat), SizeOf.sizeOf f ≤ m → okF f = true → ∃ x t, tkF n f = x :: t ∧ Ax [91] (some x) = false
 | 0, f, n, hm, _ => by cases f; simp at hm
 | m + 1, .mk op nm v b args, n, hm, hok => by
  simp only [okF, Bool.and_eq_true] at hok
  simp only [tkF]
  by_cases hlv : (Bo op).level < n
  ·rw [decide_eq_true hlv]
   exact ⟨_, _, rfl, by decide⟩
  ·rw [decide_eq_false hlv]
   show ∃ x t, tkA _ _ _ _ = x :: t ∧ _
   have hsg : args.length < 2 → ∃ x t, sgK op nm v b = x :: t ∧ Ax [91] (some x) = false := fun h2 => by
    obtain ⟨st, hst, q1, q2, q3, q4, q5, q6, q7, q8⟩ := node_parts hok.1
    rcases op_cases hst with rfl | rfl | rfl | rfl | rfl | rfl | rfl | rfl | rfl | rfl | rfl | rfl | rfl | rfl | rfl | rfl | rfl | rfl | rfl
    case inr.inr.inl => exact ⟨_, _, rfl, name_sees (q7 rfl) (.inr (by decide))⟩
    case inr.inr.inr.inr.inr.inr.inr.inr.inr.inr.inr.inr.inr.inr.inl =>
     by_cases hv : v = 0
     ·exact ⟨_, _, by simp only [sgK, if_pos hv]; rfl, by decide⟩
     ·exact ⟨_, _, by simp only [sgK, if_neg hv]; rfl, by decide⟩
    all_goals exact ⟨_, _, rfl, by decide⟩
   match args, hok, hsg with
   | [], _, hsg => exact hsg (by simp)
   | [a], _, hsg =>
    obtain ⟨x, t, e, hx⟩ := hsg (by simp)
    exact ⟨x, t ++ (tkF (Bo op).first a ++ tkR (Bo op).next (sgK op nm v b) []), by simp [tkA, e], hx⟩
   | a :: c :: l, hok, _ =>
    simp only [okL, Bool.and_eq_true] at hok
    obtain ⟨x, t, e, hx⟩ := tk_head m a (Bo op).first (by simp at hm; omega) hok.2.1
    exact ⟨x, t ++ tkR (Bo op).next (sgK op nm v b) (c :: l), by simp [tkA, e], hx⟩
theorem tk_open {f : Fml} (hok : okF f = true) (n : Nat) (r : List Tok) : Ax [91] ((BD (tkF n f) ++ r).head?.map bare) = false := by
 obtain ⟨x, t, e, hx⟩ := tk_head _ f n (Nat.le_refl _) hok
 rw [e]; exact hx
theorem andL_run : ∀ (l : List Fml), (∀ a ∈ l, RunsF a) → ∀ r : List Tok, StopL 2 r → RunN .andL (BD (tkR 3 [(3, [38])] l) ++ r) (.ok (l, r)) ∧ StopL 3 (BD (tkR 3 [(3, [38])] l) ++ r)
 | [], _, r, hr => ⟨Ck (hr.and (Nat.le_refl _)) (Run.ret _ _), hr.mono (by omega)⟩
 | a :: l, hl, r, hr => by
  obtain ⟨h1, h2⟩ := andL_run l (fun c hc => hl c (by simp [hc])) r hr
  refine ⟨?_, StopL.cons (by decide)⟩
  have := hl a (by simp) 3 _ (by omega) h2
  simp only [tkR, BD, List.map_append, List.append_assoc, List.map_cons, List.map_nil, List.cons_append, List.nil_append] at this ⊢
  exact DN rfl (Run.call this (Run.call h1 (Run.ret _ _)))
theorem orL_run : ∀ (l : List Fml), (∀ a ∈ l, RunsF a) → ∀ r : List Tok, StopL 1 r → RunN .orL (BD (tkR 2 [(3, [124])] l) ++ r) (.ok (l, r)) ∧ StopL 2 (BD (tkR 2 [(3, [124])] l) ++ r)
 | [], _, r, hr => ⟨Ck (hr.or (Nat.le_refl _)) (Run.ret _ _), hr.mono (by omega)⟩
 | a :: l, hl, r, hr => by
  obtain ⟨h1, h2⟩ := orL_run l (fun c hc => hl c (by simp [hc])) r hr
  refine ⟨?_, StopL.cons (by decide)⟩
  have := hl a (by simp) 2 _ (by omega) h2
  simp only [tkR, BD, List.map_append, List.append_assoc, List.map_cons, List.map_nil, List.cons_append, List.nil_append] at this ⊢
  exact DN rfl (Run.call this (Run.call h1 (Run.ret _ _)))
end Go.Proofs.YtfcgdbmoncnibaaGreatDoor
namespace Go.Proofs.YtfcgdbmoncnibaaGreatDoor
set_option linter.unusedVariables false
variable {mk : Prop} [MK mk]
theorem tkA_one (f n : Nat) (sg : List BT) (a : Fml) : tkA f n sg [a] = sg ++ tkF f a := by simp [tkA, tkR]
theorem tkA_two (f n : Nat) (sg : List BT) (a c : Fml) : tkA f n sg [a, c] = tkF f a ++ (sg ++ tkF n c) := by simp [tkA, tkR]
theorem tkA_more (f n : Nat) (sg : List BT) (a c : Fml) (l : List Fml) : tkA f n sg (a :: c :: l) = tkF f a ++ tkR n sg (c :: l) := by simp [tkA]
theorem BS (x y : List BT) (r : List Tok) : BD (x ++ y) ++ r = BD x ++ (BD y ++ r) := by simp [BD]
theorem one_of {l : List Fml} (h1 : 1 ≤ l.length) (h2 : l.length ≤ 1) : ∃ a, l = [a] := by
 match l, h1, h2 with
 | [a], _, _ => exact ⟨a, rfl⟩
theorem two_of {l : List Fml} (h1 : 2 ≤ l.length) (h2 : l.length ≤ 2) : ∃ a c, l = [a, c] := by
 match l, h1, h2 with
 | [a, c], _, _ => exact ⟨a, c, rfl⟩
theorem more_of {l : List Fml} (h1 : 2 ≤ l.length) : ∃ a c k, l = a :: c :: k := by
 match l, h1 with
 | a :: c :: k, _ => exact ⟨a, c, k, rfl⟩
set_option maxHeartbeats 1600000 in
theorem body_run {op v b : Int} {nm : List UInt8} {args : List Fml} (h : C6 op nm v b args.length = true) (hok : okL args = true) (hl : ∀ a ∈ args, RunsF a) {r : List Tok} (hr : StopL (min (Bo op).level 4) r) :
  RunL (min (Bo op).level 4) (BD (tkA (Bo op).first (Bo op).next (sgK op nm v b) args) ++ r) (.mk op nm v b args) r := by
 obtain ⟨st, hst, q1, q2, q3, q4, q5, q6, q7, q8⟩ := node_parts h
 rcases op_cases hst with rfl | rfl | rfl | rfl | rfl | rfl | rfl | rfl | rfl | rfl | rfl | rfl | rfl | rfl | rfl | rfl | rfl | rfl | rfl <;> simp [Be, styL, List.lookup] at hst <;> subst hst <;> simp only at q1 q2 q4 q6
 ·obtain rfl := List.length_eq_zero_iff.1 (Nat.le_zero.1 q2)
  obtain rfl := q8 (by decide)
  obtain rfl : v = 0 := by omega
  obtain rfl : b = 0 := by omega
  exact run_true r
 ·obtain rfl := List.length_eq_zero_iff.1 (Nat.le_zero.1 q2)
  obtain rfl := q8 (by decide)
  obtain rfl : v = 0 := by omega
  obtain rfl : b = 0 := by omega
  exact run_false r
 ·obtain rfl := List.length_eq_zero_iff.1 (Nat.le_zero.1 q2)
  obtain rfl : b = 0 := by omega
  exact run_is (q7 rfl) q3 hr
 ·obtain rfl : v = 0 := by omega
  obtain rfl : b = 0 := by omega
  obtain ⟨a, rfl⟩ := one_of q1 q2
  obtain rfl := q8 (by decide)
  rw [tkA_one, BS]
  have ha := hl a (by simp) 4 r (by omega) (hr.mono (by decide))
  have ho : okF a = true := B3 hok a (by simp)
  exact un_pre (o := ⟨4, 0, 0⟩) (n := none) rfl (ix0 _ rfl) ha
 ·obtain ⟨a, c, l, rfl⟩ := more_of q1
  obtain rfl := q8 (by decide)
  obtain rfl : v = 0 := by omega
  obtain rfl : b = 0 := by omega
  rw [tkA_more, BS]
  obtain ⟨h1, h2⟩ := andL_run (c :: l) (fun d hd => hl d (by simp at hd; simp [hd])) r hr
  have ha := hl a (by simp) 3 _ (by omega) h2
  exact Run.call ha (Run.call h1 (Run.ret _ _))
 ·obtain ⟨a, c, l, rfl⟩ := more_of q1
  obtain rfl := q8 (by decide)
  obtain rfl : v = 0 := by omega
  obtain rfl : b = 0 := by omega
  rw [tkA_more, BS]
  obtain ⟨h1, h2⟩ := orL_run (c :: l) (fun d hd => hl d (by simp at hd; simp [hd])) r hr
  have ha := hl a (by simp) 2 _ (by omega) h2
  exact Run.call ha (Run.call h1 (Run.ret _ _))
 ·obtain ⟨a, c, rfl⟩ := two_of q1 q2
  obtain rfl := q8 (by decide)
  obtain rfl : v = 0 := by omega
  obtain rfl : b = 0 := by omega
  have hc := hl c (by simp) 0 r (by omega) hr
  rw [tkA_two, BS, BS]
  have ha := hl a (by simp) 1 (tkn (3, [45, 62]) :: (BD (tkF 0 c) ++ r)) (by omega) (StopL.cons (by decide))
  exact Run.call ha (DN rfl (Run.call hc (Run.ret _ _)))
 ·obtain rfl : v = 0 := by omega
  obtain rfl : b = 0 := by omega
  obtain ⟨a, rfl⟩ := one_of q1 q2
  obtain rfl := q8 (by decide)
  rw [tkA_one, BS]
  have ha := hl a (by simp) 4 r (by omega) (hr.mono (by decide))
  have ho : okF a = true := B3 hok a (by simp)
  exact un_pre (o := ⟨8, 0, 0⟩) (n := none) rfl (ix0 _ rfl) ha
 ·obtain ⟨a, c, rfl⟩ := two_of q1 q2
  obtain rfl := q8 (by decide)
  obtain rfl : v = 0 := by omega
  obtain rfl : b = 0 := by omega
  have hc := hl c (by simp) 3 r (by omega) (hr.mono (by decide))
  have ho : okF c = true := B3 hok c (by simp)
  rw [tkA_two, BS, BS]
  exact un_bin (hl a (by simp) 4 _ (by omega) (StopL.cons (x := tkn (1, [85])) (by decide))) rfl (ix0 (o := ⟨9, 0, 0⟩) _ rfl) hc
 ·obtain ⟨a, c, rfl⟩ := two_of q1 q2
  obtain rfl := q8 (by decide)
  obtain rfl : v = 0 := by omega
  obtain rfl : b = 0 := by omega
  have hc := hl c (by simp) 3 r (by omega) (hr.mono (by decide))
  have ho : okF c = true := B3 hok c (by simp)
  rw [tkA_two, BS, BS]
  exact un_bin (hl a (by simp) 4 _ (by omega) (StopL.cons (x := tkn (1, [82])) (by decide))) rfl (ix0 (o := ⟨10, 0, 0⟩) _ rfl) hc
 ·obtain rfl : v = 0 := by omega
  obtain rfl : b = 0 := by omega
  obtain ⟨a, rfl⟩ := one_of q1 q2
  obtain rfl := q8 (by decide)
  rw [tkA_one, BS]
  have ha := hl a (by simp) 4 r (by omega) (hr.mono (by decide))
  have ho : okF a = true := B3 hok a (by simp)
  exact un_pre (o := ⟨11, 13, 0⟩) (n := none) rfl (ixNo (tk_open ho 4 r)) ha
 ·obtain rfl : v = 0 := by omega
  obtain rfl : b = 0 := by omega
  obtain ⟨a, rfl⟩ := one_of q1 q2
  obtain rfl := q8 (by decide)
  rw [tkA_one, BS]
  have ha := hl a (by simp) 4 r (by omega) (hr.mono (by decide))
  have ho : okF a = true := B3 hok a (by simp)
  exact un_pre (o := ⟨12, 14, 0⟩) (n := none) rfl (ixNo (tk_open ho 4 r)) ha
 ·obtain rfl : v = 0 := by omega
  obtain ⟨a, rfl⟩ := one_of q1 q2
  obtain rfl := q8 (by decide)
  rw [tkA_one, BS]
  have ha := hl a (by simp) 4 r (by omega) (hr.mono (by decide))
  have ho : okF a = true := B3 hok a (by simp)
  exact un_pre (o := ⟨11, 13, 0⟩) (n := some b) rfl (ixYes (by decide) q5) ha
 ·obtain rfl : v = 0 := by omega
  obtain ⟨a, rfl⟩ := one_of q1 q2
  obtain rfl := q8 (by decide)
  rw [tkA_one, BS]
  have ha := hl a (by simp) 4 r (by omega) (hr.mono (by decide))
  have ho : okF a = true := B3 hok a (by simp)
  exact un_pre (o := ⟨12, 14, 0⟩) (n := some b) rfl (ixYes (by decide) q5) ha
 ·obtain rfl : b = 0 := by omega
  rcases (show v = 0 ∨ v = 1 by omega) with rfl | rfl
  ·obtain ⟨a, rfl⟩ := one_of q1 q2
   obtain rfl := q8 (by decide)
   rw [tkA_one, BS]
   have ha := hl a (by simp) 4 r (by omega) (hr.mono (by decide))
   have ho : okF a = true := B3 hok a (by simp)
   exact un_pre (o := ⟨15, 0, 0⟩) (n := none) rfl (ix0 _ rfl) ha
  ·obtain ⟨a, rfl⟩ := one_of q1 q2
   obtain rfl := q8 (by decide)
   rw [tkA_one, BS]
   have ha := hl a (by simp) 4 r (by omega) (hr.mono (by decide))
   have ho : okF a = true := B3 hok a (by simp)
   exact un_pre (o := ⟨15, 0, 1⟩) (n := none) rfl (ix0 _ rfl) ha
 ·obtain ⟨a, c, rfl⟩ := two_of q1 q2
  obtain rfl := q8 (by decide)
  obtain rfl : b = 0 := by omega
  by_cases hv : v = 0
  ·subst hv
   have hc := hl c (by simp) 3 r (by omega) (hr.mono (by decide))
   have ho : okF c = true := B3 hok c (by simp)
   rw [tkA_two, BS, BS]
   exact un_bin (hl a (by simp) 4 _ (by omega) (StopL.cons (x := tkn (1, [83])) (by decide))) rfl (ixNo (o := ⟨16, 16, 0⟩) (tk_open ho 3 r)) hc
  ·simp only [sgK, if_neg hv]
   have hc := hl c (by simp) 3 r (by omega) (hr.mono (by decide))
   have ho : okF c = true := B3 hok c (by simp)
   rw [tkA_two, BS, BS]
   exact un_bin (hl a (by simp) 4 _ (by omega) (StopL.cons (x := tkn (1, [83])) (by decide))) rfl (ixYes (o := ⟨16, 16, 0⟩) (by decide) q3) hc
 ·obtain ⟨a, c, rfl⟩ := two_of q1 q2
  obtain rfl := q8 (by decide)
  obtain rfl : b = 0 := by omega
  by_cases hv : v = 1
  ·subst hv
   have hc := hl c (by simp) 3 r (by omega) (hr.mono (by decide))
   have ho : okF c = true := B3 hok c (by simp)
   rw [tkA_two, BS, BS]
   exact un_bin (hl a (by simp) 4 _ (by omega) (StopL.cons (x := tkn (1, [84])) (by decide))) rfl (ixNo (o := ⟨17, 17, 1⟩) (tk_open ho 3 r)) hc
  ·simp only [sgK, if_neg hv]
   have hc := hl c (by simp) 3 r (by omega) (hr.mono (by decide))
   have ho : okF c = true := B3 hok c (by simp)
   rw [tkA_two, BS, BS]
   exact un_bin (hl a (by simp) 4 _ (by omega) (StopL.cons (x := tkn (1, [84])) (by decide))) rfl (ixYes (o := ⟨17, 17, 1⟩) (by decide) q3) hc
 ·obtain rfl : v = 0 := by omega
  obtain rfl : b = 0 := by omega
  obtain ⟨a, rfl⟩ := one_of q1 q2
  obtain rfl := q8 (by decide)
  rw [tkA_one, BS]
  have ha := hl a (by simp) 4 r (by omega) (hr.mono (by decide))
  have ho : okF a = true := B3 hok a (by simp)
  exact un_pre (o := ⟨18, 0, 0⟩) (n := none) rfl (ix0 _ rfl) ha
 ·obtain rfl : v = 0 := by omega
  obtain rfl : b = 0 := by omega
  obtain ⟨a, rfl⟩ := one_of q1 q2
  obtain rfl := q8 (by decide)
  rw [tkA_one, BS]
  have ha := hl a (by simp) 4 r (by omega) (hr.mono (by decide))
  have ho : okF a = true := B3 hok a (by simp)
  exact un_pre (o := ⟨19, 0, 0⟩) (n := none) rfl (ix0 _ rfl) ha
theorem runsF : ∀ (m : Nat) (f : Fml), SizeOf.sizeOf f ≤ m → okF f = true → RunsF f
 | 0, f, hm, _ => by cases f; simp at hm
 | m + 1, .mk op nm v b args, hm, hok => by
  simp only [okF, Bool.and_eq_true] at hok
  have hl : ∀ a ∈ args, RunsF a := fun a ha => runsF m a (by have := List.sizeOf_lt_of_mem ha; simp at hm; omega) (B3 hok.2 a ha)
  intro n r hn hr
  simp only [tkF]
  by_cases hlv : (Bo op).level < n
  ·rw [decide_eq_true hlv]
   have h0 := body_run hok.1 hok.2 hl (StopL.nil _)
   have h1 := climb (min (Bo op).level 4) 0 (by omega) (by rw [Nat.zero_add]; exact h0) (StopL.nil 0)
   have h2 : RunN .unary _ _ := paren (x := tkn (3, [40])) (y := tkn (3, [41])) r rfl rfl h1
   have e : BD (wrapK true (tkA (Bo op).first (Bo op).next (sgK op nm v b) args)) ++ r = tkn (3, [40]) :: (BD (tkA (Bo op).first (Bo op).next (sgK op nm v b) args) ++ [] ++ tkn (3, [41]) :: r) := by simp [BD, wrapK]
   rw [e]
   refine climb (4 - n) n (by omega) ?_ hr
   rw [show n + (4 - n) = 4 by omega]
   exact h2
  ·rw [decide_eq_false hlv]
   have h0 := body_run hok.1 hok.2 hl (r := r) (hr.mono (by omega))
   refine climb (min (Bo op).level 4 - n) n (by omega) ?_ hr
   rw [show n + (min (Bo op).level 4 - n) = min (Bo op).level 4 by omega]
   exact h0
theorem tk_run {f : Fml} (hok : okF f = true) : RunN .formula (BD (tkF 0 f)) (.ok (f, [])) := by
 have := runsF _ f (Nat.le_refl _) hok 0 [] (by omega) (StopL.nil 0)
 rw [List.append_nil] at this
 exact this
end Go.Proofs.YtfcgdbmoncnibaaGreatDoor
namespace Go.Proofs.YtfcgdbmoncnibaaGreatDoor
set_option linter.unusedVariables false
variable {mk : Prop} [MK mk]
def cnt (l : List Tok) : Nat := l.countP fun x => decide (x.text = [40])
end Go.Proofs.YtfcgdbmoncnibaaGreatDoor
namespace Go.Proofs.YtfcgdbmoncnibaaGreatDoor
set_option linter.unusedVariables false
def rqmK (r : Rqm) : List BT := (1, if r.kind = 1 then [97, 115, 115, 117, 109, 101] else [103, 117, 97, 114, 97, 110, 116, 101, 101]) :: (1, r.name) :: (3, [58]) :: tkF 0 r.formula
def sgnK (x : Sgn) : List BT := (1, if x.input then [105, 110, 112, 117, 116] else [111, 117, 116, 112, 117, 116]) :: (1, x.name) :: ((if x.size = 2 then [] else [(3, [58]), (2, CL x.size)]) ++ [(3, [59])])
def itG {α : Type} (o : List UInt8 → List α) (m : Rqm → List α) (c : List α) (l : List Rqm) (i : Nat) : List α := match l[i]? with
 | none => []
 | some r => (if i = 0 ∨ (l[i - 1]?).map (·.part) ≠ some r.part then o r.part else []) ++ (m r ++ (if i + 1 = l.length ∨ (l[i + 1]?).map (·.part) ≠ some r.part then c else []))
def itR {α : Type} (o : List UInt8 → List α) (m : Rqm → List α) (c : List α) (prev : Option (List UInt8)) : List Rqm → List α
 | [] => []
 | r :: l => (if prev ≠ some r.part then o r.part else []) ++ (m r ++ ((if l.head?.map (·.part) ≠ some r.part then c else []) ++ itR o m c (some r.part) l))
theorem itG_itR {α : Type} (o : List UInt8 → List α) (m : Rqm → List α) (c : List α) : ∀ (l2 l1 : List Rqm), (List.range' l1.length l2.length).flatMap (itG o m c (l1 ++ l2)) = itR o m c (l1.getLast?.map (·.part)) l2
 | [], l1 => by simp [itR]
 | r :: l2, l1 => by
  have ih := itG_itR o m c l2 (l1 ++ [r])
  rw [List.append_assoc, List.singleton_append] at ih
  simp only [List.length_append, List.length_singleton, List.getLast?_append, List.getLast?_singleton, Option.some_or, Option.map_some] at ih
  rw [List.length_cons, List.range'_succ, List.flatMap_cons, ih]
  have hr : (l1 ++ r :: l2)[l1.length]? = some r := by simp
  have h1 : (l1.length = 0 ∨ ((l1 ++ r :: l2)[l1.length - 1]?).map (·.part) ≠ some r.part) ↔ l1.getLast?.map (·.part) ≠ some r.part := by
   cases l1 with
   | nil => simp
   | cons a k =>
    have : ((a :: k) ++ r :: l2)[(a :: k).length - 1]? = (a :: k).getLast? := by
     rw [List.getElem?_append_left (by simp), List.getLast?_eq_getElem?]
    rw [this]
    simp
  have h2 : (l1.length + 1 = (l1 ++ r :: l2).length ∨ ((l1 ++ r :: l2)[l1.length + 1]?).map (·.part) ≠ some r.part) ↔ l2.head?.map (·.part) ≠ some r.part := by
   rw [List.getElem?_append_right (by omega), show l1.length + 1 - l1.length = 0 + 1 by omega, List.getElem?_cons_succ]
   cases l2 with
   | nil => simp
   | cons b k => simp
  have e : itG o m c (l1 ++ r :: l2) l1.length = (if l1.getLast?.map (·.part) ≠ some r.part then o r.part else []) ++ (m r ++ (if l2.head?.map (·.part) ≠ some r.part then c else [])) := by
   unfold itG
   rw [hr]
   simp only [h1, h2]
  rw [e]
  simp [itR]
theorem itG_all {α : Type} (o : List UInt8 → List α) (m : Rqm → List α) (c : List α) (l : List Rqm) : (List.range l.length).flatMap (itG o m c l) = itR o m c none l := by
 have := itG_itR o m c l []
 rw [List.range_eq_range']
 simpa using this
theorem itR_grp {α : Type} (o : List UInt8 → List α) (m : Rqm → List α) (c : List α) (p : List UInt8) : ∀ (l : List Rqm) (r : Rqm), r.part = p →
  itR o m c (some p) (r :: l) = ((r :: l).takeWhile fun x => decide (x.part = p)).flatMap m ++ (c ++ itR o m c none ((r :: l).dropWhile fun x => decide (x.part = p)))
 | [], r, hr => by simp [itR, hr]
 | x :: l, r, hr => by
  have e1 : (r :: x :: l).takeWhile (fun y => decide (y.part = p)) = r :: (x :: l).takeWhile (fun y => decide (y.part = p)) := by rw [List.takeWhile_cons]; simp [hr]
  have e2 : (r :: x :: l).dropWhile (fun y => decide (y.part = p)) = (x :: l).dropWhile (fun y => decide (y.part = p)) := by rw [List.dropWhile_cons]; simp [hr]
  rw [e1, e2, List.flatMap_cons]
  rw [itR, hr, if_neg (by simp)]
  by_cases hx : x.part = p
  ·rw [if_neg (by simp [hx]), List.nil_append, List.nil_append, itR_grp o m c p l x hx]
   simp
  ·have e3 : (x :: l).takeWhile (fun y => decide (y.part = p)) = [] := by rw [List.takeWhile_cons]; simp [hx]
   have e4 : (x :: l).dropWhile (fun y => decide (y.part = p)) = x :: l := by rw [List.dropWhile_cons]; simp [hx]
   have h1 : some p ≠ some x.part := fun h => hx (Option.some.inj h).symm
   have h2 : ((x :: l).head?.map (·.part)) ≠ some p := fun h => hx (Option.some.inj h)
   have e5 : itR o m c (some p) (x :: l) = itR o m c none (x :: l) := by
    simp only [itR]
    rw [if_pos h1, if_pos (show (none : Option (List UInt8)) ≠ some x.part from nofun)]
   rw [e3, e4, if_pos h2, e5]
   simp
def oT (p : List UInt8) : List UInt8 := [112, 97, 114, 116, 32] ++ (p ++ [32, 123, 10])
def mT (r : Rqm) : List UInt8 := [32, 32] ++ (reqT r ++ [59, 10])
def oK (p : List UInt8) : List BT := [(1, [112, 97, 114, 116]), (1, p), (3, [123])]
def mK (r : Rqm) : List BT := rqmK r ++ [(3, [59])]
def cK : List BT := [(3, [125])]
theorem rqsT_eq (l : List Rqm) : rqsT l = itR oT mT [125, 10] none l := by
 rw [← itG_all]
 unfold rqsT
 congr 1
 funext i
 unfold rqI itG
 cases l[i]? with
 | none => rfl
 | some r => simp [oT, mT]
def spcK (s : Spc) : List BT := s.sigs.flatMap sgnK ++ itR oK mK cK none s.reqs
def edtK (e : Edt) : List BT := if e.kind = 2 then [(1, [100, 114, 111, 112]), (1, e.req.name)] else (1, if e.kind = 1 then [97, 100, 100] else [114, 101, 112, 108, 97, 99, 101]) :: (1, e.req.part) :: rqmK e.req
theorem ReadL.word {y s : List UInt8} {bs : List BT} (h1 : 1 ≤ y.length) (h2 : y.length ≤ 12) (h3 : A9 (y.getD 0 0) = true) (h4 : y.all BF = true) (hr : ReadL s bs) (hs : folB s.head? = true) : ReadL (y ++ s) ((1, y) :: bs) := .tok h1 (word_step h1 h2 h3 h4 hs) hr
theorem ReadL.nl {s : List UInt8} {bs : List BT} (h : ReadL s bs) : ReadL (59 :: 10 :: s) ((3, [59]) :: bs) := ReadL.one (by simp) (ReadL.gap (.inr rfl) h)
theorem req_reads {r : Rqm} (hok : okR r = true) {s : List UInt8} {bs : List BT} (hr : ReadL s bs) (hs : Fol s) : ReadL (reqT r ++ s) (rqmK r ++ bs) := by
 simp only [okR, Bool.and_eq_true] at hok
 have hf := (readsF _ r.formula (Nat.le_refl _) hok.2 0 s bs hr hs).1
 have h1 : ReadL (r.name ++ ([58, 32] ++ (prF 0 r.formula ++ s))) ((1, r.name) :: (3, [58]) :: (tkF 0 r.formula ++ bs)) := ReadL.name hok.1.2 (ReadL.one (by simp) (ReadL.gap (.inl rfl) hf)) rfl
 by_cases hk : r.kind = 1
 ·have h2 := ReadL.word (y := [97, 115, 115, 117, 109, 101]) (by simp) (by simp) rfl rfl (ReadL.gap (c := 32) (.inl rfl) h1) rfl
  simpa [reqT, rqmK, hk] using h2
 ·have h2 := ReadL.word (y := [103, 117, 97, 114, 97, 110, 116, 101, 101]) (by simp) (by simp) rfl rfl (ReadL.gap (c := 32) (.inl rfl) h1) rfl
  simpa [reqT, rqmK, hk] using h2
theorem sgn_reads {x : Sgn} (hok : okS x = true) {s : List UInt8} {bs : List BT} (hr : ReadL s bs) : ReadL (sgnT x ++ s) (sgnK x ++ bs) := by
 simp only [okS, numB, Bool.and_eq_true, decide_eq_true_eq] at hok
 have h1 : ReadL (x.name ++ ((if x.size = 2 then [] else [58, 32] ++ CL x.size) ++ 59 :: 10 :: s)) ((1, x.name) :: ((if x.size = 2 then [] else [(3, [58]), (2, CL x.size)]) ++ (3, [59]) :: bs)) := by
  by_cases h2 : x.size = 2
  ·rw [if_pos h2, if_pos h2]
   exact ReadL.name hok.1 hr.nl rfl
  ·rw [if_neg h2, if_neg h2]
   have := ReadL.num hok.2.2 hr.nl rfl
   have h3 : ReadL (58 :: 32 :: (CL x.size ++ 59 :: 10 :: s)) ((3, [58]) :: (2, CL x.size) :: (3, [59]) :: bs) := ReadL.one (by simp) (ReadL.gap (.inl rfl) this)
   exact ReadL.name hok.1 h3 rfl
 cases hi : x.input with
 | true =>
  have h2 := ReadL.word (y := [105, 110, 112, 117, 116]) (by simp) (by simp) rfl rfl (ReadL.gap (c := 32) (.inl rfl) h1) rfl
  simpa [sgnT, sgnK, hi] using h2
 | false =>
  have h2 := ReadL.word (y := [111, 117, 116, 112, 117, 116]) (by simp) (by simp) rfl rfl (ReadL.gap (c := 32) (.inl rfl) h1) rfl
  simpa [sgnT, sgnK, hi] using h2
theorem sigs_read : ∀ {l : List Sgn} (_ : l.all okS = true) {s : List UInt8} {bs : List BT} (_ : ReadL s bs), ReadL (l.flatMap sgnT ++ s) (l.flatMap sgnK ++ bs)
 | [], _, s, bs, hr => hr
 | x :: l, h, s, bs, hr => by
  rw [List.all_cons, Bool.and_eq_true] at h
  rw [List.flatMap_cons, List.flatMap_cons, List.append_assoc, List.append_assoc]
  exact sgn_reads h.1 (sigs_read h.2 hr)
theorem itR_read : ∀ (l : List Rqm) (prev : Option (List UInt8)) (_ : l.all Dq = true) {s : List UInt8} {bs : List BT} (_ : ReadL s bs), ReadL (itR oT mT [125, 10] prev l ++ s) (itR oK mK cK prev l ++ bs)
 | [], _, _, s, bs, hr => hr
 | r :: l, prev, h, s, bs, hr => by
  rw [List.all_cons, Bool.and_eq_true] at h
  have hk := h.1
  simp only [Dq, Bool.and_eq_true] at hk
  have ih := itR_read l (some r.part) h.2 hr
  have h1 : ReadL ((if l.head?.map (·.part) ≠ some r.part then [125, 10] else []) ++ (itR oT mT [125, 10] (some r.part) l ++ s)) ((if l.head?.map (·.part) ≠ some r.part then cK else []) ++ (itR oK mK cK (some r.part) l ++ bs)) := by
   split
   ·exact ReadL.one (by simp) (ReadL.gap (.inr rfl) ih)
   ·exact ih
  have h2 := req_reads hk.2 h1.nl ⟨rfl, by simp⟩
  have h3 : ReadL ([32, 32] ++ (reqT r ++ 59 :: 10 :: _)) _ := ReadL.gap (.inl rfl) (ReadL.gap (.inl rfl) h2)
  by_cases hp : prev ≠ some r.part
  ·have h4 := ReadL.word (y := [112, 97, 114, 116]) (by simp) (by simp) rfl rfl (ReadL.gap (c := 32) (.inl rfl) (ReadL.name hk.1 (ReadL.gap (c := 32) (.inl rfl) (ReadL.one (c := 123) (by simp) (ReadL.gap (c := 10) (.inr rfl) h3))) rfl)) rfl
   simpa [itR, hp, oT, mT, oK, mK] using h4
  ·simp only [ne_eq, Decidable.not_not] at hp
   simpa [itR, hp, mT, mK] using h3
theorem spc_reads {x : Spc} (hok : CZ x = true) {s : List UInt8} {bs : List BT} (hr : ReadL s bs) : ReadL (spcT x ++ s) (spcK x ++ bs) := by
 simp only [CZ, Bool.and_eq_true] at hok
 have h1 := itR_read x.reqs none hok.2 hr
 have := sigs_read hok.1 h1
 rw [← rqsT_eq] at this
 simpa [spcT, spcK] using this
theorem edt_reads {e : Edt} (hok : okE e = true) : ReadL (edtT e) (edtK e) := by
 unfold okE at hok
 unfold edtT edtK
 by_cases h2 : e.kind = 2
 ·rw [if_pos h2] at hok ⊢
  rw [if_pos h2]
  simp only [Bool.and_eq_true] at hok
  have h1 := ReadL.name hok.2 ReadL.nil rfl
  have h4 := ReadL.word (y := [100, 114, 111, 112]) (by simp) (by simp) rfl rfl (ReadL.gap (c := 32) (.inl rfl) h1) rfl
  simpa using h4
 ·rw [if_neg h2] at hok ⊢
  rw [if_neg h2]
  simp only [Bool.and_eq_true] at hok
  have h1 := req_reads hok.2 ReadL.nil ⟨rfl, by simp⟩
  rw [List.append_nil, List.append_nil] at h1
  have h3 := ReadL.name hok.1.2 (ReadL.gap (c := 32) (.inl rfl) h1) rfl
  by_cases hk : e.kind = 1
  ·have h4 := ReadL.word (y := [97, 100, 100]) (by simp) (by simp) rfl rfl (ReadL.gap (c := 32) (.inl rfl) h3) rfl
   simpa [hk] using h4
  ·have h4 := ReadL.word (y := [114, 101, 112, 108, 97, 99, 101]) (by simp) (by simp) rfl rfl (ReadL.gap (c := 32) (.inl rfl) h3) rfl
   simpa [hk] using h4
end Go.Proofs.YtfcgdbmoncnibaaGreatDoor
namespace Go.Proofs.YtfcgdbmoncnibaaGreatDoor
set_option linter.unusedVariables false
def unp0 (r : Rqm) : Rqm := ⟨[], r.name, r.kind, r.formula⟩
theorem req_run {r : Rqm} (hok : okR r = true) {rest : List Tok} (hr : StopL 0 rest) : RunN .req (BD (rqmK r) ++ rest) (.ok (unp0 r, rest)) := by
 simp only [okR, Bool.and_eq_true, Bool.or_eq_true, decide_eq_true_eq] at hok
 have hf : RunN .formula (BD (tkF 0 r.formula) ++ rest) (.ok (r.formula, rest)) := runsF _ r.formula (Nat.le_refl _) hok.2 0 rest (by omega) hr
 have ht : ∀ k : Int, Run (nameG.bind fun s => (B5 [58]).bind fun _ => .call .formula fun f => .ret (⟨[], s, k, f⟩ : Rqm)) (tkn (1, r.name) :: tkn (3, [58]) :: (BD (tkF 0 r.formula) ++ rest)) (.ok (⟨[], r.name, k, r.formula⟩, rest)) := fun k => by
  refine run_name (x := tkn (1, r.name)) rfl hok.1.2 ?_
  refine CW (x := tkn (3, [58])) rfl ?_
  exact Run.call hf (Run.ret _ _)
 by_cases hk : r.kind = 1
 ·have e : BD (rqmK r) ++ rest = tkn (1, [97, 115, 115, 117, 109, 101]) :: tkn (1, r.name) :: tkn (3, [58]) :: (BD (tkF 0 r.formula) ++ rest) := by simp [rqmK, BD, hk]
  rw [e]
  have e2 : unp0 r = ⟨[], r.name, 1, r.formula⟩ := by simp [unp0, hk]
  rw [e2]
  exact DN (x := tkn (1, [97, 115, 115, 117, 109, 101])) rfl (Run.bind (Run.ret _ _) (ht 1))
 ·have hk2 : r.kind = 2 := by rcases hok.1.1 with h | h; exact absurd h hk; exact h
  have e : BD (rqmK r) ++ rest = tkn (1, [103, 117, 97, 114, 97, 110, 116, 101, 101]) :: tkn (1, r.name) :: tkn (3, [58]) :: (BD (tkF 0 r.formula) ++ rest) := by simp [rqmK, BD, hk]
  rw [e]
  have e2 : unp0 r = ⟨[], r.name, 2, r.formula⟩ := by simp [unp0, hk2]
  rw [e2]
  refine Ck (l := tkn (1, [103, 117, 97, 114, 97, 110, 116, 101, 101]) :: _) rfl (Run.bind (CW (x := tkn (1, [103, 117, 97, 114, 97, 110, 116, 101, 101])) rfl (Run.ret _ _)) (ht 2))
theorem line_run {r : Rqm} (hok : okR r = true) (rest : List Tok) : RunN .line (BD (mK r) ++ rest) (.ok (unp0 r, rest)) := by
 have e : BD (mK r) ++ rest = BD (rqmK r) ++ (tkn (3, [59]) :: rest) := by simp [mK, BD]
 rw [e]
 exact Run.call (req_run hok (StopL.cons rfl)) (CW (x := tkn (3, [59])) rfl (Run.ret _ _))
theorem rqm_head (r : Rqm) (rest : List Tok) : (Ax [97, 115, 115, 117, 109, 101] ((BD (mK r) ++ rest).head?.map bare) || Ax [103, 117, 97, 114, 97, 110, 116, 101, 101] ((BD (mK r) ++ rest).head?.map bare)) = true := by
 by_cases hk : r.kind = 1
 ·simp [mK, rqmK, BD, hk, tkn, bare, Ax]
 ·simp [mK, rqmK, BD, hk, tkn, bare, Ax]
theorem lines_run : ∀ {g : List Rqm} (_ : ∀ r ∈ g, okR r = true) (rest : List Tok), RunN .lines (BD (g.flatMap mK) ++ (tkn (3, [125]) :: rest)) (.ok (g.map unp0, tkn (3, [125]) :: rest))
 | [], _, rest => Run.bind (C5 _ _ _) (Run.ret _ _)
 | r :: g, h, rest => by
  have e : BD ((r :: g).flatMap mK) ++ (tkn (3, [125]) :: rest) = BD (mK r) ++ (BD (g.flatMap mK) ++ (tkn (3, [125]) :: rest)) := by simp [BD]
  rw [e]
  have h1 := C5 [97, 115, 115, 117, 109, 101] [103, 117, 97, 114, 97, 110, 116, 101, 101] (BD (mK r) ++ (BD (g.flatMap mK) ++ (tkn (3, [125]) :: rest)))
  rw [rqm_head] at h1
  refine Run.bind h1 ?_
  exact Run.call (line_run (h r (by simp)) _) (Run.call (lines_run (fun x hx => h x (by simp [hx])) rest) (Run.ret _ _))
theorem part_run {g : List Rqm} {p : List UInt8} (hp : Ba p = true) (h : ∀ r ∈ g, okR r = true ∧ r.part = p) (rest : List Tok) : RunN .part (BD (oK p ++ (g.flatMap mK ++ cK)) ++ rest) (.ok (g, rest)) := by
 have e : BD (oK p ++ (g.flatMap mK ++ cK)) ++ rest = tkn (1, [112, 97, 114, 116]) :: tkn (1, p) :: tkn (3, [123]) :: (BD (g.flatMap mK) ++ (tkn (3, [125]) :: rest)) := by simp [oK, cK, BD]
 rw [e]
 refine CW (x := tkn (1, [112, 97, 114, 116])) rfl (run_name (x := tkn (1, p)) rfl hp (CW (x := tkn (3, [123])) rfl (Run.call (lines_run (fun r hr => (h r hr).1) rest) (CW (x := tkn (3, [125])) rfl ?_))))
 have e2 : (g.map unp0).map (fun r => (⟨p, r.name, r.kind, r.formula⟩ : Rqm)) = g := by
  rw [List.map_map]
  refine (List.map_congr_left fun r hr => ?_).trans (List.map_id _)
  have := (h r hr).2
  cases r
  simp at this
  simp [unp0, this]
 show Run (.ret ((g.map unp0).map (fun r => (⟨p, r.name, r.kind, r.formula⟩ : Rqm)))) rest _
 rw [e2]
 exact Run.ret _ _
theorem parts_run : ∀ (n : Nat) (l : List Rqm) (_ : l.length ≤ n) (_ : l.all Dq = true) {rest r' : List Tok} {ps : List (List Rqm)} (_ : RunN .parts rest (.ok (ps, r'))), ∃ qs, RunN .parts (BD (itR oK mK cK none l) ++ rest) (.ok (qs, r')) ∧ qs.flatten = l ++ ps.flatten
 | n, [], _, _, rest, r', ps, hr => ⟨ps, hr, rfl⟩
 | 0, r :: l, hn, _, _, _, _, _ => by simp at hn
 | n + 1, r :: l, hn, hok, rest, r', ps, hr => by
  have hg : ∀ x ∈ (r :: l).takeWhile (fun x => decide (x.part = r.part)), okR x = true ∧ x.part = r.part := fun x hx => by
   have h1 := List.all_eq_true.1 hok x ((List.takeWhile_sublist _).subset hx)
   simp only [Dq, Bool.and_eq_true] at h1
   have h2 := List.all_eq_true.1 (List.all_takeWhile (p := fun x : Rqm => decide (x.part = r.part)) (l := r :: l)) x hx
   exact ⟨h1.2, by simpa using h2⟩
  have hpn : Ba r.part = true := by
   have h1 := List.all_eq_true.1 hok r (by simp)
   simp only [Dq, Bool.and_eq_true] at h1
   exact h1.1
  have e1 : itR oK mK cK none (r :: l) = oK r.part ++ itR oK mK cK (some r.part) (r :: l) := by
   simp only [itR]
   rw [if_pos (show (none : Option (List UInt8)) ≠ some r.part from nofun), if_neg (show ¬ (some r.part ≠ some r.part) from fun h => h rfl)]
   rfl
  have hdl : ((r :: l).dropWhile (fun x => decide (x.part = r.part))).length ≤ n := by
   rw [List.dropWhile_cons, if_pos (by simp)]
   have := (List.dropWhile_sublist (fun x : Rqm => decide (x.part = r.part)) (l := l)).length_le
   simp at hn; omega
  have hdo : ((r :: l).dropWhile (fun x => decide (x.part = r.part))).all Dq = true := by
   rw [List.all_eq_true] at hok ⊢
   exact fun x hx => hok x ((List.dropWhile_sublist _).subset hx)
  obtain ⟨qs, h1, h2⟩ := parts_run n _ hdl hdo hr
  refine ⟨(r :: l).takeWhile (fun x => decide (x.part = r.part)) :: qs, ?_, ?_⟩
  ·rw [e1, itR_grp _ _ _ r.part l r rfl]
   have e3 : BD (oK r.part ++ (((r :: l).takeWhile fun x => decide (x.part = r.part)).flatMap mK ++ (cK ++ itR oK mK cK none ((r :: l).dropWhile fun x => decide (x.part = r.part))))) ++ rest =
     BD (oK r.part ++ (((r :: l).takeWhile fun x => decide (x.part = r.part)).flatMap mK ++ cK)) ++ (BD (itR oK mK cK none ((r :: l).dropWhile fun x => decide (x.part = r.part))) ++ rest) := by simp [BD]
   rw [e3]
   refine Run.bind (a := true) (l' := BD (oK r.part ++ (((r :: l).takeWhile fun x => decide (x.part = r.part)).flatMap mK ++ cK)) ++ (BD (itR oK mK cK none ((r :: l).dropWhile fun x => decide (x.part = r.part))) ++ rest)) (C5 _ _ _) ?_
   exact Run.call (part_run hpn hg _) (Run.call h1 (Run.ret _ _))
  ·rw [List.flatten_cons, h2, ← List.append_assoc, List.takeWhile_append_dropWhile]
theorem parts_end : RunN .parts [] (.ok ([], [])) := Run.bind (C5 _ _ _) (Run.ret _ _)
theorem signal_run {x : Sgn} (hok : okS x = true) (rest : List Tok) : RunN .signal (BD (sgnK x) ++ rest) (.ok (x, rest)) := by
 simp only [okS, numB, Bool.and_eq_true, decide_eq_true_eq] at hok
 have ht : ∀ i : Bool, i = x.input → Run (nameG.bind fun s => ((BX [58]).bind fun b => if b then numberG else .ret 2).bind fun n => (B5 [59]).bind fun _ => .ret (⟨s, i, n⟩ : Sgn))
   (tkn (1, x.name) :: (BD (if x.size = 2 then [] else [(3, [58]), (2, CL x.size)]) ++ (tkn (3, [59]) :: rest))) (.ok (x, rest)) := fun i hi => by
  subst hi
  refine run_name (x := tkn (1, x.name)) rfl hok.1 ?_
  by_cases h2 : x.size = 2
  ·rw [if_pos h2]
   refine Run.bind (a := 2) (l' := tkn (3, [59]) :: rest) (Ck (l := tkn (3, [59]) :: rest) rfl (Run.ret _ _)) (CW (x := tkn (3, [59])) rfl ?_)
   have e : (⟨x.name, x.input, 2⟩ : Sgn) = x := by cases x; simp at h2; simp [h2]
   show Run (.ret (⟨x.name, x.input, 2⟩ : Sgn)) rest _
   rw [e]
   exact Run.ret _ _
  ·rw [if_neg h2]
   have e : Dp (tkn (2, CL x.size)).text = x.size := numOf_numT hok.2.1
   have hn : Run numberG (tkn (2, CL x.size) :: tkn (3, [59]) :: rest) (.ok (x.size, tkn (3, [59]) :: rest)) := by
    have := run_number (q := fun n => .ret n) (x := tkn (2, CL x.size)) (l := tkn (3, [59]) :: rest) rfl (Run.ret _ _)
    rw [e] at this
    have h3 : numberG.bind (fun n => G.ret n) = numberG := by
     unfold numberG
     simp only [G.bind]
     congr 1
     funext o
     cases o with
     | none => rfl
     | some y => simp only; split <;> rfl
    rw [h3] at this
    exact this
   refine Run.bind (a := x.size) (l' := tkn (3, [59]) :: rest) (DN (x := tkn (3, [58])) rfl hn) (CW (x := tkn (3, [59])) rfl ?_)
   exact Run.ret _ _
 cases hi : x.input with
 | true =>
  have e : BD (sgnK x) ++ rest = tkn (1, [105, 110, 112, 117, 116]) :: tkn (1, x.name) :: (BD (if x.size = 2 then [] else [(3, [58]), (2, CL x.size)]) ++ (tkn (3, [59]) :: rest)) := by simp [sgnK, BD, hi]
  rw [e]
  exact DN (x := tkn (1, [105, 110, 112, 117, 116])) rfl (Run.bind (Run.ret _ _) (ht true hi.symm))
 | false =>
  have e : BD (sgnK x) ++ rest = tkn (1, [111, 117, 116, 112, 117, 116]) :: tkn (1, x.name) :: (BD (if x.size = 2 then [] else [(3, [58]), (2, CL x.size)]) ++ (tkn (3, [59]) :: rest)) := by simp [sgnK, BD, hi]
  rw [e]
  exact Ck (l := tkn (1, [111, 117, 116, 112, 117, 116]) :: _) rfl (Run.bind (l' := tkn (1, x.name) :: _) (run_expect_t (t := [111, 117, 116, 112, 117, 116]) (ts := tkn (1, [111, 117, 116, 112, 117, 116]) :: tkn (1, x.name) :: _) rfl) (ht false hi.symm))
theorem sgn_head (x : Sgn) (rest : List Tok) : (Ax [105, 110, 112, 117, 116] ((BD (sgnK x) ++ rest).head?.map bare) || Ax [111, 117, 116, 112, 117, 116] ((BD (sgnK x) ++ rest).head?.map bare)) = true := by
 cases hi : x.input with
 | true => simp [sgnK, BD, hi, tkn, bare, Ax]
 | false => simp [sgnK, BD, hi, tkn, bare, Ax]
theorem sigs_run : ∀ {l : List Sgn} (_ : l.all okS = true) {rest : List Tok} (_ : (Ax [105, 110, 112, 117, 116] (rest.head?.map bare) || Ax [111, 117, 116, 112, 117, 116] (rest.head?.map bare)) = false), RunN .sigs (BD (l.flatMap sgnK) ++ rest) (.ok (l, rest))
 | [], _, rest, hr => by
  have h1 := C5 [105, 110, 112, 117, 116] [111, 117, 116, 112, 117, 116] rest
  rw [hr] at h1
  exact Run.bind h1 (Run.ret _ _)
 | x :: l, h, rest, hr => by
  rw [List.all_cons, Bool.and_eq_true] at h
  have e : BD ((x :: l).flatMap sgnK) ++ rest = BD (sgnK x) ++ (BD (l.flatMap sgnK) ++ rest) := by simp [BD]
  rw [e]
  have h1 := C5 [105, 110, 112, 117, 116] [111, 117, 116, 112, 117, 116] (BD (sgnK x) ++ (BD (l.flatMap sgnK) ++ rest))
  rw [sgn_head] at h1
  exact Run.bind h1 (Run.call (signal_run h.1 _) (Run.call (sigs_run h.2 hr) (Run.ret _ _)))
theorem itR_head (l : List Rqm) (rest : List Tok) (hr : (Ax [105, 110, 112, 117, 116] (rest.head?.map bare) || Ax [111, 117, 116, 112, 117, 116] (rest.head?.map bare)) = false) : (Ax [105, 110, 112, 117, 116] ((BD (itR oK mK cK none l) ++ rest).head?.map bare) || Ax [111, 117, 116, 112, 117, 116] ((BD (itR oK mK cK none l) ++ rest).head?.map bare)) = false := by
 cases l with
 | nil => exact hr
 | cons r l =>
  simp only [itR]
  rw [if_pos (show (none : Option (List UInt8)) ≠ some r.part from nofun)]
  simp [oK, BD, tkn, bare, Ax]
theorem spc_run2 {x : Spc} (hx : CZ x = true) {l : List Rqm} (hl : l.all Dq = true) : RunN .spec (BD (spcK x) ++ BD (itR oK mK cK none l)) (.ok (⟨x.sigs, x.reqs ++ l⟩, [])) := by
 simp only [CZ, Bool.and_eq_true] at hx
 obtain ⟨q1, h1, e1⟩ := parts_run _ l (Nat.le_refl _) hl parts_end
 rw [List.append_nil] at h1
 obtain ⟨q2, h2, e2⟩ := parts_run _ x.reqs (Nat.le_refl _) hx.2 h1
 rw [e1, List.flatten_nil, List.append_nil] at e2
 have e : BD (spcK x) ++ BD (itR oK mK cK none l) = BD (x.sigs.flatMap sgnK) ++ (BD (itR oK mK cK none x.reqs) ++ BD (itR oK mK cK none l)) := by simp [spcK, BD]
 rw [e]
 have hh : (Ax [105, 110, 112, 117, 116] ((BD (itR oK mK cK none l)).head?.map bare) || Ax [111, 117, 116, 112, 117, 116] ((BD (itR oK mK cK none l)).head?.map bare)) = false := by
  have := itR_head l [] rfl
  rwa [List.append_nil] at this
 refine Run.call (sigs_run hx.1 (itR_head x.reqs _ hh)) (Run.call h2 ?_)
 rw [e2]
 exact Run.ret _ _
theorem spc_run {x : Spc} (hx : CZ x = true) : RunN .spec (BD (spcK x)) (.ok (x, [])) := by
 have := spc_run2 hx (l := []) rfl
 simpa [itR, BD] using this
theorem edt_run {e : Edt} (hok : okE e = true) (hz : e.kind = 2 → e.req = ⟨[], e.req.name, 0, DU⟩) : RunN .edit (BD (edtK e)) (.ok (e, [])) := by
 obtain ⟨k, r⟩ := e
 simp only [okE, edtK] at hok ⊢
 by_cases h2 : k = 2
 ·rw [if_pos h2] at hok ⊢
  simp only [Bool.and_eq_true] at hok
  have hz := hz h2
  simp only at hz
  have hd : Run (nameG.bind fun s => .ret (⟨2, ⟨[], s, 0, DU⟩⟩ : Edt)) [tkn (1, r.name)] (.ok (⟨2, ⟨[], r.name, 0, DU⟩⟩, [])) := run_name (x := tkn (1, r.name)) rfl hok.2 (Run.ret _ _)
  rw [← hz, ← h2] at hd
  exact DN (x := tkn (1, [100, 114, 111, 112])) rfl (by rw [if_pos rfl, ← h2]; exact hd)
 ·rw [if_neg h2] at hok ⊢
  simp only [Bool.and_eq_true, Bool.or_eq_true, decide_eq_true_eq] at hok
  have hr := req_run hok.2 (rest := []) (StopL.nil 0)
  rw [List.append_nil] at hr
  have ht : Run (nameG.bind fun p => .call .req fun q => .ret (⟨k, ⟨p, q.name, q.kind, q.formula⟩⟩ : Edt)) (tkn (1, r.part) :: BD (rqmK r)) (.ok (⟨k, r⟩, [])) :=
   run_name (x := tkn (1, r.part)) rfl hok.1.2 (Run.call hr (Run.ret _ _))
  by_cases h1 : k = 1
  ·subst h1
   have e : BD ((1, if (1 : Int) = 1 then [97, 100, 100] else [114, 101, 112, 108, 97, 99, 101]) :: (1, r.part) :: rqmK r) = tkn (1, [97, 100, 100]) :: tkn (1, r.part) :: BD (rqmK r) := by simp [BD]
   rw [e]
   exact Ck (l := tkn (1, [97, 100, 100]) :: _) rfl (DN (x := tkn (1, [97, 100, 100])) rfl (Run.bind (Run.ret _ _) ht))
  ·have h3 : k = 3 := by rcases hok.1.1 with h | h; exact absurd h h1; exact h
   subst h3
   have e : BD ((1, if (3 : Int) = 1 then [97, 100, 100] else [114, 101, 112, 108, 97, 99, 101]) :: (1, r.part) :: rqmK r) = tkn (1, [114, 101, 112, 108, 97, 99, 101]) :: tkn (1, r.part) :: BD (rqmK r) := by simp [BD]
   rw [e]
   refine Ck (l := tkn (1, [114, 101, 112, 108, 97, 99, 101]) :: _) rfl (Ck (l := tkn (1, [114, 101, 112, 108, 97, 99, 101]) :: _) rfl (Run.bind (a := 3) (l' := tkn (1, r.part) :: BD (rqmK r)) ?_ ht))
   exact Run.bind (l' := tkn (1, r.part) :: BD (rqmK r)) (run_expect_t (t := [114, 101, 112, 108, 97, 99, 101]) (ts := tkn (1, [114, 101, 112, 108, 97, 99, 101]) :: tkn (1, r.part) :: BD (rqmK r)) rfl) (Run.ret _ _)
end Go.Proofs.YtfcgdbmoncnibaaGreatDoor
namespace Go.Proofs.YtfcgdbmoncnibaaGreatDoor
set_option linter.unusedVariables false
end Go.Proofs.YtfcgdbmoncnibaaGreatDoor
namespace Go.Proofs.YtfcgdbmoncnibaaGreatDoor
open Go.RowKit
set_option linter.unusedVariables false
variable {mk : Prop} [MK mk]
theorem in_ok (w : World) (v : Value) (l : List (List UInt8)) (s : List UInt8) (hT : Sl A1 w v l.length (l.map AK)) : Fn Tryz.prog 86 [v, AK s] w fun v w' => v = .bool (decide (s ∈ l)) ∧ w' = w := by
 obtain ⟨a, c, rfl, hc1, hc2, _, hcc⟩ := hT
 refine Ae Tryz.func86 rfl Tryz.ntmps86 (Nat.le_of_ble_eq_true rfl) (by kernel_rfl) ?_
 repeat refine nx rfl ?_
 refine AA (AC (AB rfl ?_))
 repeat refine nx rfl ?_
 refine AA (AC (AH rfl ?_))
 repeat refine nx rfl ?_
 refine BN (α := Nat) (fun k => [(0, .slice a l.length c), (1, AK s), (5, .int .i64 (k : Int))]) (fun k W => k ≤ l.length ∧ s ∉ l.take k ∧ W = w) (fun k => l.length - k) 0 ⟨rfl, rfl, rfl, trivial⟩ ⟨by omega, by simp, rfl⟩ ?_
 rintro k w2 f2 ⟨hk, hn, rfl⟩
 repeat refine nx rfl ?_
 by_cases hlt : k < l.length
 ·obtain ⟨b, o, rfl, _, hcell⟩ := hcc.resolve_left (by omega)
  obtain ⟨y, hy⟩ : ∃ y, l[k]? = some y := ⟨_, List.getElem?_eq_getElem hlt⟩
  have hyc : w2.cell? ⟨b, o + k, none⟩ = some (AK y) := hcell k _ (by simp [hy])
  have ht1 : l.take (k + 1) = l.take k ++ [y] := by rw [List.take_add_one, hy]; rfl
  refine AA (AH rfl (Aa rfl (Ap rfl (BG rfl rfl (by omega) ?_))))
  repeat refine nx rfl ?_
  by_cases hys : y = s
  ·(refine AA (Aa rfl (AH rfl (W_idx1 rfl rfl rfl (by omega) (AF rfl (by assumption) ?_)))) <;> refine AU rfl ?_ <;> refine CB rfl rfl (fun hc => ?_) (fun hc => ?_) <;> refine AJ ?_)
   case refine_2 => exact absurd hys (by assumption)
   repeat refine nx rfl ?_
   refine AA (AC (AB rfl ?_))
   repeat refine nx rfl ?_
   exact AP rfl ⟨by rw [decide_eq_true (List.mem_of_getElem? (hys ▸ hy) : s ∈ l)]; rfl, rfl⟩
  ·(refine AA (Aa rfl (AH rfl (W_idx1 rfl rfl rfl (by omega) (AF rfl (by assumption) ?_)))) <;> refine AU rfl ?_ <;> refine CB rfl rfl (fun hc => ?_) (fun hc => ?_) <;> refine AJ ?_)
   case refine_1 => exact absurd (by assumption) hys
   repeat first | refine nx rfl ?_ | refine nf rfl ?_
   (refine AA (AH rfl (BU rfl rfl (by first | exact Ao (by omega) (by omega) | exact Au (by omega) (by omega) | exact An (by omega) (by omega)) ?_)) <;> refine AC (AH rfl ?_))
   repeat refine nx rfl ?_
   refine ⟨k + 1, ⟨rfl, ⟨rfl, rfl, ?_, trivial⟩, ⟨by omega, by rw [ht1]; simp [hn]; exact fun e => hys e.symm, rfl⟩⟩, by omega⟩
   show Value.int .i64 ((k : Int) + 1) = _
   rw [Int.natCast_add]; rfl
 ·obtain rfl : k = l.length := by omega
  refine AA (AH rfl (Aa rfl (Ap rfl (BH rfl rfl (by omega) ?_))))
  repeat first | refine nx rfl ?_ | refine nf rfl ?_
  refine AA (AC (AB rfl ?_))
  repeat refine nx rfl ?_
  rw [List.take_length] at hn
  exact AP rfl ⟨by rw [decide_eq_false hn]; rfl, rfl⟩
theorem keywords_ok (w : World) : Fn Tryz.prog 87 [] w fun v w' => Sl A1 w' v keysL.length (keysL.map AK) ∧ Ext w w' := by
 refine Ae Tryz.func87 rfl Tryz.ntmps87 (Nat.le_of_ble_eq_true rfl) (by kernel_rfl) ?_
 repeat refine nx rfl ?_
 refine AA (AC (Aa rfl ?_))
 repeat refine nx rfl ?_
 refine AA ?_
 refine W_buildSlice1 (out := keysL.map AK) rfl (by omega) rfl (by kernel_rfl) (fun w1 n1 => ?_)
 refine AC (Aa rfl ?_)
 repeat refine nx rfl ?_
 exact AP rfl ⟨⟨_, _, rfl, by decide, by decide, (fun h => by cases h), .inr ⟨_, _, rfl, trivial, n1.blk.cells⟩⟩, n1.keep⟩
theorem refName_ok (s : List UInt8) (w : World) : Fn Tryz.prog 53 [AK s] w fun v w' => v = .bool (Ba s) ∧ Ext w w' := by
 refine Ae Tryz.func53 rfl Tryz.ntmps53 (Nat.le_of_ble_eq_true rfl) (by kernel_rfl) ?_
 repeat refine nx rfl ?_
 refine AA (AC (AB rfl ?_))
 repeat refine nx rfl ?_
 by_cases h1 : s.length < 1
 ·refine AA (AU rfl (Aw rfl (BG rfl rfl (by omega) (AB rfl (AI rfl (AI rfl (AI rfl (AL rfl (AB rfl (AB rfl (AI rfl (AI rfl (AI rfl (AL rfl (AB rfl ?_)))))))))))))))
  repeat refine nx rfl ?_
  refine AA (AC (AB rfl ?_))
  repeat refine nx rfl ?_
  exact AP rfl ⟨by rw [DB, decide_eq_false (show ¬ 1 ≤ s.length by omega)]; rfl, Ext.refl _⟩
 by_cases h12 : 12 < s.length
 ·refine AA (AU rfl (Aw rfl (BH rfl rfl (by omega) (AB rfl (AE rfl (AU rfl (AE rfl (Aw rfl (AE rfl (DF rfl rfl (by omega) (AN rfl (AB rfl (AB rfl (AI rfl (AI rfl (AI rfl (AL rfl (AB rfl ?_))))))))))))))))))
  repeat refine nx rfl ?_
  refine AA (AC (AB rfl ?_))
  repeat refine nx rfl ?_
  exact AP rfl ⟨by rw [DB, decide_eq_false (show ¬ s.length ≤ 12 by omega)]; simp [upd, Nat.beq], Ext.refl _⟩
 refine AA (AU rfl (Aw rfl (BH rfl rfl (by omega) (AB rfl (AE rfl (AU rfl (AE rfl (Aw rfl (AE rfl (DH rfl rfl (by omega) (AN rfl (AB rfl (AB rfl ?_)))))))))))))
 refine AE rfl (AS (keywords_ok w) rfl ?_)
 rintro v w1 ⟨hS, k1⟩
 obtain ⟨va, vc, rfl, _⟩ := id hS
 refine AE rfl (AU rfl ?_)
 refine AE rfl (AS (in_ok w1 _ keysL s hS) rfl ?_)
 rintro _ wx ⟨rfl, hw⟩
 obtain rfl := hw.symm
 refine AN rfl (AB rfl (AJ ?_))
 by_cases hkey : s ∈ keysL
 ·rw [decide_eq_true hkey]
  repeat refine nx rfl ?_
  refine AA (AC (AB rfl ?_))
  repeat refine nx rfl ?_
  exact AP rfl ⟨by rw [DB, decide_eq_true hkey]; simp [upd, Nat.beq], k1⟩
 rw [decide_eq_false hkey]
 repeat first | refine nx rfl ?_ | refine nf rfl ?_
 refine AA (AC (AH rfl ?_))
 repeat refine nx rfl ?_
 refine BN (α := Nat) (fun k => [(0, AK s), (3, .int .i64 (k : Int))]) (fun k W => k ≤ s.length ∧ (∀ (i : Nat) (c : UInt8), i < k → s[i]? = some c → okAt i c = true) ∧ W = w1) (fun k => s.length - k) 0 ⟨rfl, rfl, trivial⟩ ⟨by omega, fun i c hi => by omega, rfl⟩ ?_
 rintro k w2 f2 ⟨hk, hok, rfl⟩
 repeat refine nx rfl ?_
 by_cases hlt : k < s.length
 ·have hc0 : s[k]? = some s[k] := List.getElem?_eq_getElem hlt
  generalize s[k] = c at hc0
  have cb := c.toNat_lt
  have step : okAt k c = true → ∀ (i : Nat) (d : UInt8), i < k + 1 → s[i]? = some d → okAt i d = true := fun hkc i d hi hd => by
   by_cases hik : i = k
   ·subst hik; rw [hc0] at hd; cases hd; exact hkc
   ·exact hok i d (by omega) hd
  refine AA (AH rfl (AU rfl (Aw rfl (BG rfl rfl (by omega) ?_))))
  repeat refine nx rfl ?_
  refine CE (α := Unit) (fun _ => [(0, AK s), (3, .int .i64 (k : Int)), (4, .bool (A9 c))]) (fun _ W => w2 = W) ?_ ?_
  ·by_cases ha : 97 ≤ c.toNat
   ·by_cases hb : c.toNat ≤ 122
    ·rw [show A9 c = true by simp [A9, ha, hb]]
     (refine AA (AU rfl (AH rfl (BE rfl rfl (by assumption) ?_))) <;> refine W_geqT rfl rfl (by omega) (AB rfl (AE rfl (AU rfl (AE rfl (AH rfl (AE rfl (BE rfl rfl (by assumption) ?_))))))) <;> refine AE rfl (DD rfl rfl (by omega) (AL rfl (AB rfl (AC (AB rfl (AJ ?_)))))))
     exact Am () ⟨rfl, rfl, rfl, trivial⟩ rfl
    ·rw [show A9 c = false by simp [A9, ha, hb]]
     (refine AA (AU rfl (AH rfl (BE rfl rfl (by assumption) ?_))) <;> refine W_geqT rfl rfl (by omega) (AB rfl (AE rfl (AU rfl (AE rfl (AH rfl (AE rfl (BE rfl rfl (by assumption) ?_))))))) <;> refine AE rfl (Db rfl rfl (by omega) (AL rfl (AB rfl (AC (AB rfl (AJ ?_)))))))
     exact Am () ⟨rfl, rfl, rfl, trivial⟩ rfl
   ·rw [show A9 c = false by simp [A9, ha]]
    (refine AA (AU rfl (AH rfl (BE rfl rfl (by assumption) ?_))) <;> refine W_geqF rfl rfl (by omega) (AB rfl (AI rfl (AI rfl (AI rfl (AI rfl (AN rfl (AB rfl (AC (AB rfl (AJ ?_)))))))))))
    exact Am () ⟨rfl, rfl, rfl, trivial⟩ rfl
  rintro _ _ f3 rfl
  repeat refine nx rfl ?_
  refine CE (α := Unit) (fun _ => [(0, AK s), (3, .int .i64 (k : Int)), (4, .bool (A9 c)), (5, .bool (Aq c || decide (c.toNat = 95)))]) (fun _ W => w2 = W) ?_ ?_
  ·by_cases ha : 48 ≤ c.toNat
   ·by_cases hb : c.toNat ≤ 57
    ·rw [show (Aq c || decide (c.toNat = 95)) = true by simp [Aq, ha, hb]]
     (refine AA (AU rfl (AH rfl (BE rfl rfl (by assumption) ?_))) <;> refine W_geqT rfl rfl (by omega) (AB rfl (AE rfl (AU rfl (AE rfl (AH rfl (AE rfl (BE rfl rfl (by assumption) ?_))))))) <;> refine AE rfl (DD rfl rfl (by omega) (AL rfl (AB rfl (AB rfl (AI rfl (AI rfl (AI rfl (AI rfl (AL rfl (AB rfl (AC (AB rfl (AJ ?_))))))))))))))
     exact Am () ⟨rfl, rfl, rfl, rfl, trivial⟩ rfl
    ·by_cases hu : c.toNat = 95
     ·rw [show (Aq c || decide (c.toNat = 95)) = true by simp [hu]]
      (refine AA (AU rfl (AH rfl (BE rfl rfl (by assumption) ?_))) <;> refine W_geqT rfl rfl (by omega) (AB rfl (AE rfl (AU rfl (AE rfl (AH rfl (AE rfl (BE rfl rfl (by assumption) ?_))))))) <;> refine AE rfl (Db rfl rfl (by omega) (AL rfl (AB rfl (AB rfl (AE rfl (AU rfl (AE rfl (AH rfl (AE rfl (BE rfl rfl (by assumption) ?_)))))))))) <;> refine AE rfl (At rfl rfl (by omega) (AN rfl (AB rfl (AC (AB rfl (AJ ?_)))))))
      exact Am () ⟨rfl, rfl, rfl, rfl, trivial⟩ rfl
     ·rw [show (Aq c || decide (c.toNat = 95)) = false by simp [Aq, hu, ha, hb]]
      (refine AA (AU rfl (AH rfl (BE rfl rfl (by assumption) ?_))) <;> refine W_geqT rfl rfl (by omega) (AB rfl (AE rfl (AU rfl (AE rfl (AH rfl (AE rfl (BE rfl rfl (by assumption) ?_))))))) <;> refine AE rfl (Db rfl rfl (by omega) (AL rfl (AB rfl (AB rfl (AE rfl (AU rfl (AE rfl (AH rfl (AE rfl (BE rfl rfl (by assumption) ?_)))))))))) <;> refine AE rfl (AQ rfl rfl (by omega) (AN rfl (AB rfl (AC (AB rfl (AJ ?_)))))))
      exact Am () ⟨rfl, rfl, rfl, rfl, trivial⟩ rfl
   ·rw [show (Aq c || decide (c.toNat = 95)) = false by simp [Aq, ha]; omega]
    (refine AA (AU rfl (AH rfl (BE rfl rfl (by assumption) ?_))) <;> refine W_geqF rfl rfl (by omega) (AB rfl (AI rfl (AI rfl (AI rfl (AI rfl (AN rfl (AB rfl (AB rfl (AE rfl (AU rfl (AE rfl (AH rfl (AE rfl (BE rfl rfl (by assumption) ?_)))))))))))))) <;> refine AE rfl (AQ rfl rfl (by omega) (AN rfl (AB rfl (AC (AB rfl (AJ ?_)))))))
    exact Am () ⟨rfl, rfl, rfl, rfl, trivial⟩ rfl
  rintro _ _ f4 rfl
  repeat refine nx rfl ?_
  have hbad : okAt k c = false → Ba s = false := fun h => by
   have hsh : shapeB s = false := by
    cases hsb : shapeB s with
    | false => rfl
    | true => rw [(shapeB_iff s (by omega)).1 hsb k c hc0] at h; cases h
   rw [DB, hsh]; simp
  have hoke : okAt k c = (A9 c || (decide (0 < k) && (Aq c || decide (c.toNat = 95)))) := rfl
  cases hsm : A9 c with
  | true =>
   refine AA (AB rfl (BB rfl (AB rfl (AI rfl (AI rfl (AI rfl (AI rfl (AI rfl (AI rfl (AN rfl (AB rfl ?_)))))))))))
   repeat first | refine nx rfl ?_ | refine nf rfl ?_
   (refine AA (AH rfl (BU rfl rfl (by first | exact Ao (by omega) (by omega) | exact Au (by omega) (by omega) | exact An (by omega) (by omega)) ?_)) <;> refine AC (AH rfl ?_))
   repeat refine nx rfl ?_
   refine ⟨k + 1, ⟨rfl, ⟨rfl, ?_, trivial⟩, ⟨by omega, step (by rw [hoke, hsm]; rfl), rfl⟩⟩, by omega⟩
   show Value.int .i64 ((k : Int) + 1) = _
   rw [Int.natCast_add]; rfl
  | false =>
   by_cases hk0 : k = 0
   ·have hb := hbad (by rw [hoke, hsm, decide_eq_false (show ¬ 0 < k by omega)]; rfl)
    refine AA (AB rfl (BB rfl (AB rfl (AE rfl (AH rfl (AE rfl (At rfl rfl (by omega) (AE rfl (AB rfl (AI rfl (AI rfl (AE rfl (AL rfl (AB rfl (AL rfl (AB rfl ?_))))))))))))))))
    repeat refine nx rfl ?_
    refine AA (AC (AB rfl ?_))
    repeat refine nx rfl ?_
    exact AP rfl ⟨by rw [hb]; rfl, k1⟩
   ·cases hrs : (Aq c || decide (c.toNat = 95)) with
    | true =>
     refine AA (AB rfl (BB rfl (AB rfl (AE rfl (AH rfl (AE rfl (AQ rfl rfl (by omega) (AE rfl (AB rfl (AE rfl (AB rfl (AE rfl (BB rfl (AE rfl (AN rfl (AB rfl (AL rfl (AB rfl ?_))))))))))))))))))
     repeat first | refine nx rfl ?_ | refine nf rfl ?_
     (refine AA (AH rfl (BU rfl rfl (by first | exact Ao (by omega) (by omega) | exact Au (by omega) (by omega) | exact An (by omega) (by omega)) ?_)) <;> refine AC (AH rfl ?_))
     repeat refine nx rfl ?_
     refine ⟨k + 1, ⟨rfl, ⟨rfl, ?_, trivial⟩, ⟨by omega, step (by rw [hoke, hsm, hrs, decide_eq_true (show 0 < k by omega)]; rfl), rfl⟩⟩, by omega⟩
     show Value.int .i64 ((k : Int) + 1) = _
     rw [Int.natCast_add]; rfl
    | false =>
     have hb := hbad (by rw [hoke, hsm, hrs]; simp)
     refine AA (AB rfl (BB rfl (AB rfl (AE rfl (AH rfl (AE rfl (AQ rfl rfl (by omega) (AE rfl (AB rfl (AE rfl (AB rfl (AE rfl (BB rfl (AE rfl (AN rfl (AB rfl (AL rfl (AB rfl ?_))))))))))))))))))
     repeat refine nx rfl ?_
     refine AA (AC (AB rfl ?_))
     repeat refine nx rfl ?_
     exact AP rfl ⟨by rw [hb]; rfl, k1⟩
 ·obtain rfl : k = s.length := by omega
  have hsh : shapeB s = true := (shapeB_iff s (by omega)).2 fun i c hc => hok i c (List.getElem?_eq_some_iff.1 hc).1 hc
  refine AA (AH rfl (AU rfl (Aw rfl (BH rfl rfl (by omega) ?_))))
  repeat first | refine nx rfl ?_ | refine nf rfl ?_
  refine AA (AC (AB rfl ?_))
  repeat refine nx rfl ?_
  exact AP rfl ⟨by rw [DB, hsh, decide_eq_false hkey, decide_eq_true (show 1 ≤ s.length by omega), decide_eq_true (show s.length ≤ 12 by omega)]; rfl, k1⟩
end Go.Proofs.YtfcgdbmoncnibaaGreatDoor
namespace Go.Proofs.YtfcgdbmoncnibaaGreatDoor
open Go.RowKit
set_option linter.unusedVariables false
theorem rnumber_ok (w : World) (n : Int) : Fn Tryz.prog 54 [.int .i64 n] w fun v w' => v = .bool (numB n) ∧ w' = w := by
 refine Ae Tryz.func54 rfl Tryz.ntmps54 (Nat.le_of_ble_eq_true rfl) (by kernel_rfl) ?_
 repeat refine nx rfl ?_
 refine AA (AC (AB rfl ?_))
 repeat refine nx rfl ?_
 (refine AA (AH rfl ?_) <;> (refine W_geq rfl rfl (fun hc => ?_) (fun hc => ?_) <;> try omega) <;> refine AB rfl ?_ <;> (first | refine AI rfl ?_ | (refine AE rfl ?_; refine AH rfl ?_)) <;> (first | refine AI rfl ?_ | (refine AE rfl ?_; (refine W_leq rfl rfl (fun hc => ?_) (fun hc => ?_) <;> try omega))) <;> ((first | refine AL rfl ?_ | refine AN rfl ?_); refine AB rfl ?_) <;> refine AC (AB rfl (AJ ?_)))
 all_goals
  repeat refine nx rfl ?_
  exact AP rfl ⟨congrArg Value.bool (by simp [numB]; omega), rfl⟩
def Cz (op : Int) (n : Nat) : Bool := match Be op with
 | none => false
 | some s => decide (s.least ≤ n) && decide (n ≤ s.most)
theorem args_else {op : Int} {n : Nat} (h : ∀ k : Int, 1 ≤ k → k ≤ 19 → op ≠ k) : Cz op n = false := by
 unfold Cz
 cases hs : Be op with
 | none => rfl
 | some s => rcases op_cases hs with h' | h' | h' | h' | h' | h' | h' | h' | h' | h' | h' | h' | h' | h' | h' | h' | h' | h' | h' <;> exact absurd h' (h _ (by decide) (by decide))
theorem rargs_ok (w : World) (op : Int) (n : Nat) (hn : n ≤ 1000000) : Fn Tryz.prog 52 [.int .i64 op, .int .i64 (n : Int)] w fun v w1 => v = .bool (Cz op n) ∧ w1 = w := by
 refine Ae Tryz.func52 rfl Tryz.ntmps52 (Nat.le_of_ble_eq_true rfl) (by kernel_rfl) ?_
 repeat refine nx rfl ?_
 by_cases h1 : op = 1
 ·subst h1
  refine AA (AC (AB rfl ?_))
  repeat refine nx rfl ?_
  refine AA (AH rfl ?_)
  repeat refine nx rfl ?_
  refine AA (At rfl rfl (by omega) (AC (AB rfl ?_)))
  repeat refine nx rfl ?_
  (refine AA (AH rfl ?_) <;> (refine Bq rfl rfl (fun hc => ?_) (fun hc => ?_) <;> try omega) <;> refine AC (AB rfl (AJ ?_)))
  all_goals
   repeat refine nx rfl ?_
   exact AP rfl ⟨congrArg Value.bool (by simp [Cz, Be, styL, List.lookup, many]; try omega), rfl⟩
 by_cases h2 : op = 2
 ·subst h2
  refine AA (AC (AB rfl ?_))
  repeat refine nx rfl ?_
  refine AA (AH rfl ?_)
  repeat refine nx rfl ?_
  refine AA (AQ rfl rfl (by omega) (AC (AB rfl ?_)))
  repeat first | refine nx rfl ?_ | refine nf rfl ?_
  refine AA (At rfl rfl (by omega) (AC (AB rfl ?_)))
  repeat refine nx rfl ?_
  (refine AA (AH rfl ?_) <;> (refine Bq rfl rfl (fun hc => ?_) (fun hc => ?_) <;> try omega) <;> refine AC (AB rfl (AJ ?_)))
  all_goals
   repeat refine nx rfl ?_
   exact AP rfl ⟨congrArg Value.bool (by simp [Cz, Be, styL, List.lookup, many]; try omega), rfl⟩
 by_cases h3 : op = 3
 ·subst h3
  refine AA (AC (AB rfl ?_))
  repeat refine nx rfl ?_
  refine AA (AH rfl ?_)
  repeat refine nx rfl ?_
  refine AA (AQ rfl rfl (by omega) (AC (AB rfl ?_)))
  repeat first | refine nx rfl ?_ | refine nf rfl ?_
  refine AA (AQ rfl rfl (by omega) (AC (AB rfl ?_)))
  repeat first | refine nx rfl ?_ | refine nf rfl ?_
  refine AA (At rfl rfl (by omega) (AC (AB rfl ?_)))
  repeat refine nx rfl ?_
  (refine AA (AH rfl ?_) <;> (refine Bq rfl rfl (fun hc => ?_) (fun hc => ?_) <;> try omega) <;> refine AC (AB rfl (AJ ?_)))
  all_goals
   repeat refine nx rfl ?_
   exact AP rfl ⟨congrArg Value.bool (by simp [Cz, Be, styL, List.lookup, many]; try omega), rfl⟩
 by_cases h4 : op = 4
 ·subst h4
  refine AA (AC (AB rfl ?_))
  repeat refine nx rfl ?_
  refine AA (AH rfl ?_)
  repeat refine nx rfl ?_
  refine AA (AQ rfl rfl (by omega) (AC (AB rfl ?_)))
  repeat first | refine nx rfl ?_ | refine nf rfl ?_
  refine AA (AQ rfl rfl (by omega) (AC (AB rfl ?_)))
  repeat first | refine nx rfl ?_ | refine nf rfl ?_
  refine AA (AQ rfl rfl (by omega) (AC (AB rfl ?_)))
  repeat first | refine nx rfl ?_ | refine nf rfl ?_
  refine AA (At rfl rfl (by omega) (AC (AB rfl ?_)))
  repeat refine nx rfl ?_
  (refine AA (AH rfl ?_) <;> (refine Bq rfl rfl (fun hc => ?_) (fun hc => ?_) <;> try omega) <;> refine AC (AB rfl (AJ ?_)))
  all_goals
   repeat refine nx rfl ?_
   exact AP rfl ⟨congrArg Value.bool (by simp [Cz, Be, styL, List.lookup, many]; try omega), rfl⟩
 by_cases h8 : op = 8
 ·subst h8
  refine AA (AC (AB rfl ?_))
  repeat refine nx rfl ?_
  refine AA (AH rfl ?_)
  repeat refine nx rfl ?_
  refine AA (AQ rfl rfl (by omega) (AC (AB rfl ?_)))
  repeat first | refine nx rfl ?_ | refine nf rfl ?_
  refine AA (AQ rfl rfl (by omega) (AC (AB rfl ?_)))
  repeat first | refine nx rfl ?_ | refine nf rfl ?_
  refine AA (AQ rfl rfl (by omega) (AC (AB rfl ?_)))
  repeat first | refine nx rfl ?_ | refine nf rfl ?_
  refine AA (AQ rfl rfl (by omega) (AC (AB rfl ?_)))
  repeat first | refine nx rfl ?_ | refine nf rfl ?_
  refine AA (At rfl rfl (by omega) (AC (AB rfl ?_)))
  repeat refine nx rfl ?_
  (refine AA (AH rfl ?_) <;> (refine Bq rfl rfl (fun hc => ?_) (fun hc => ?_) <;> try omega) <;> refine AC (AB rfl (AJ ?_)))
  all_goals
   repeat refine nx rfl ?_
   exact AP rfl ⟨congrArg Value.bool (by simp [Cz, Be, styL, List.lookup, many]; try omega), rfl⟩
 by_cases h11 : op = 11
 ·subst h11
  refine AA (AC (AB rfl ?_))
  repeat refine nx rfl ?_
  refine AA (AH rfl ?_)
  repeat refine nx rfl ?_
  refine AA (AQ rfl rfl (by omega) (AC (AB rfl ?_)))
  repeat first | refine nx rfl ?_ | refine nf rfl ?_
  refine AA (AQ rfl rfl (by omega) (AC (AB rfl ?_)))
  repeat first | refine nx rfl ?_ | refine nf rfl ?_
  refine AA (AQ rfl rfl (by omega) (AC (AB rfl ?_)))
  repeat first | refine nx rfl ?_ | refine nf rfl ?_
  refine AA (AQ rfl rfl (by omega) (AC (AB rfl ?_)))
  repeat first | refine nx rfl ?_ | refine nf rfl ?_
  refine AA (AQ rfl rfl (by omega) (AC (AB rfl ?_)))
  repeat first | refine nx rfl ?_ | refine nf rfl ?_
  refine AA (At rfl rfl (by omega) (AC (AB rfl ?_)))
  repeat refine nx rfl ?_
  (refine AA (AH rfl ?_) <;> (refine Bq rfl rfl (fun hc => ?_) (fun hc => ?_) <;> try omega) <;> refine AC (AB rfl (AJ ?_)))
  all_goals
   repeat refine nx rfl ?_
   exact AP rfl ⟨congrArg Value.bool (by simp [Cz, Be, styL, List.lookup, many]; try omega), rfl⟩
 by_cases h12 : op = 12
 ·subst h12
  refine AA (AC (AB rfl ?_))
  repeat refine nx rfl ?_
  refine AA (AH rfl ?_)
  repeat refine nx rfl ?_
  refine AA (AQ rfl rfl (by omega) (AC (AB rfl ?_)))
  repeat first | refine nx rfl ?_ | refine nf rfl ?_
  refine AA (AQ rfl rfl (by omega) (AC (AB rfl ?_)))
  repeat first | refine nx rfl ?_ | refine nf rfl ?_
  refine AA (AQ rfl rfl (by omega) (AC (AB rfl ?_)))
  repeat first | refine nx rfl ?_ | refine nf rfl ?_
  refine AA (AQ rfl rfl (by omega) (AC (AB rfl ?_)))
  repeat first | refine nx rfl ?_ | refine nf rfl ?_
  refine AA (AQ rfl rfl (by omega) (AC (AB rfl ?_)))
  repeat first | refine nx rfl ?_ | refine nf rfl ?_
  refine AA (AQ rfl rfl (by omega) (AC (AB rfl ?_)))
  repeat first | refine nx rfl ?_ | refine nf rfl ?_
  refine AA (At rfl rfl (by omega) (AC (AB rfl ?_)))
  repeat refine nx rfl ?_
  (refine AA (AH rfl ?_) <;> (refine Bq rfl rfl (fun hc => ?_) (fun hc => ?_) <;> try omega) <;> refine AC (AB rfl (AJ ?_)))
  all_goals
   repeat refine nx rfl ?_
   exact AP rfl ⟨congrArg Value.bool (by simp [Cz, Be, styL, List.lookup, many]; try omega), rfl⟩
 by_cases h13 : op = 13
 ·subst h13
  refine AA (AC (AB rfl ?_))
  repeat refine nx rfl ?_
  refine AA (AH rfl ?_)
  repeat refine nx rfl ?_
  refine AA (AQ rfl rfl (by omega) (AC (AB rfl ?_)))
  repeat first | refine nx rfl ?_ | refine nf rfl ?_
  refine AA (AQ rfl rfl (by omega) (AC (AB rfl ?_)))
  repeat first | refine nx rfl ?_ | refine nf rfl ?_
  refine AA (AQ rfl rfl (by omega) (AC (AB rfl ?_)))
  repeat first | refine nx rfl ?_ | refine nf rfl ?_
  refine AA (AQ rfl rfl (by omega) (AC (AB rfl ?_)))
  repeat first | refine nx rfl ?_ | refine nf rfl ?_
  refine AA (AQ rfl rfl (by omega) (AC (AB rfl ?_)))
  repeat first | refine nx rfl ?_ | refine nf rfl ?_
  refine AA (AQ rfl rfl (by omega) (AC (AB rfl ?_)))
  repeat first | refine nx rfl ?_ | refine nf rfl ?_
  refine AA (AQ rfl rfl (by omega) (AC (AB rfl ?_)))
  repeat first | refine nx rfl ?_ | refine nf rfl ?_
  refine AA (At rfl rfl (by omega) (AC (AB rfl ?_)))
  repeat refine nx rfl ?_
  (refine AA (AH rfl ?_) <;> (refine Bq rfl rfl (fun hc => ?_) (fun hc => ?_) <;> try omega) <;> refine AC (AB rfl (AJ ?_)))
  all_goals
   repeat refine nx rfl ?_
   exact AP rfl ⟨congrArg Value.bool (by simp [Cz, Be, styL, List.lookup, many]; try omega), rfl⟩
 by_cases h14 : op = 14
 ·subst h14
  refine AA (AC (AB rfl ?_))
  repeat refine nx rfl ?_
  refine AA (AH rfl ?_)
  repeat refine nx rfl ?_
  refine AA (AQ rfl rfl (by omega) (AC (AB rfl ?_)))
  repeat first | refine nx rfl ?_ | refine nf rfl ?_
  refine AA (AQ rfl rfl (by omega) (AC (AB rfl ?_)))
  repeat first | refine nx rfl ?_ | refine nf rfl ?_
  refine AA (AQ rfl rfl (by omega) (AC (AB rfl ?_)))
  repeat first | refine nx rfl ?_ | refine nf rfl ?_
  refine AA (AQ rfl rfl (by omega) (AC (AB rfl ?_)))
  repeat first | refine nx rfl ?_ | refine nf rfl ?_
  refine AA (AQ rfl rfl (by omega) (AC (AB rfl ?_)))
  repeat first | refine nx rfl ?_ | refine nf rfl ?_
  refine AA (AQ rfl rfl (by omega) (AC (AB rfl ?_)))
  repeat first | refine nx rfl ?_ | refine nf rfl ?_
  refine AA (AQ rfl rfl (by omega) (AC (AB rfl ?_)))
  repeat first | refine nx rfl ?_ | refine nf rfl ?_
  refine AA (AQ rfl rfl (by omega) (AC (AB rfl ?_)))
  repeat first | refine nx rfl ?_ | refine nf rfl ?_
  refine AA (At rfl rfl (by omega) (AC (AB rfl ?_)))
  repeat refine nx rfl ?_
  (refine AA (AH rfl ?_) <;> (refine Bq rfl rfl (fun hc => ?_) (fun hc => ?_) <;> try omega) <;> refine AC (AB rfl (AJ ?_)))
  all_goals
   repeat refine nx rfl ?_
   exact AP rfl ⟨congrArg Value.bool (by simp [Cz, Be, styL, List.lookup, many]; try omega), rfl⟩
 by_cases h15 : op = 15
 ·subst h15
  refine AA (AC (AB rfl ?_))
  repeat refine nx rfl ?_
  refine AA (AH rfl ?_)
  repeat refine nx rfl ?_
  refine AA (AQ rfl rfl (by omega) (AC (AB rfl ?_)))
  repeat first | refine nx rfl ?_ | refine nf rfl ?_
  refine AA (AQ rfl rfl (by omega) (AC (AB rfl ?_)))
  repeat first | refine nx rfl ?_ | refine nf rfl ?_
  refine AA (AQ rfl rfl (by omega) (AC (AB rfl ?_)))
  repeat first | refine nx rfl ?_ | refine nf rfl ?_
  refine AA (AQ rfl rfl (by omega) (AC (AB rfl ?_)))
  repeat first | refine nx rfl ?_ | refine nf rfl ?_
  refine AA (AQ rfl rfl (by omega) (AC (AB rfl ?_)))
  repeat first | refine nx rfl ?_ | refine nf rfl ?_
  refine AA (AQ rfl rfl (by omega) (AC (AB rfl ?_)))
  repeat first | refine nx rfl ?_ | refine nf rfl ?_
  refine AA (AQ rfl rfl (by omega) (AC (AB rfl ?_)))
  repeat first | refine nx rfl ?_ | refine nf rfl ?_
  refine AA (AQ rfl rfl (by omega) (AC (AB rfl ?_)))
  repeat first | refine nx rfl ?_ | refine nf rfl ?_
  refine AA (AQ rfl rfl (by omega) (AC (AB rfl ?_)))
  repeat first | refine nx rfl ?_ | refine nf rfl ?_
  refine AA (At rfl rfl (by omega) (AC (AB rfl ?_)))
  repeat refine nx rfl ?_
  (refine AA (AH rfl ?_) <;> (refine Bq rfl rfl (fun hc => ?_) (fun hc => ?_) <;> try omega) <;> refine AC (AB rfl (AJ ?_)))
  all_goals
   repeat refine nx rfl ?_
   exact AP rfl ⟨congrArg Value.bool (by simp [Cz, Be, styL, List.lookup, many]; try omega), rfl⟩
 by_cases h18 : op = 18
 ·subst h18
  refine AA (AC (AB rfl ?_))
  repeat refine nx rfl ?_
  refine AA (AH rfl ?_)
  repeat refine nx rfl ?_
  refine AA (AQ rfl rfl (by omega) (AC (AB rfl ?_)))
  repeat first | refine nx rfl ?_ | refine nf rfl ?_
  refine AA (AQ rfl rfl (by omega) (AC (AB rfl ?_)))
  repeat first | refine nx rfl ?_ | refine nf rfl ?_
  refine AA (AQ rfl rfl (by omega) (AC (AB rfl ?_)))
  repeat first | refine nx rfl ?_ | refine nf rfl ?_
  refine AA (AQ rfl rfl (by omega) (AC (AB rfl ?_)))
  repeat first | refine nx rfl ?_ | refine nf rfl ?_
  refine AA (AQ rfl rfl (by omega) (AC (AB rfl ?_)))
  repeat first | refine nx rfl ?_ | refine nf rfl ?_
  refine AA (AQ rfl rfl (by omega) (AC (AB rfl ?_)))
  repeat first | refine nx rfl ?_ | refine nf rfl ?_
  refine AA (AQ rfl rfl (by omega) (AC (AB rfl ?_)))
  repeat first | refine nx rfl ?_ | refine nf rfl ?_
  refine AA (AQ rfl rfl (by omega) (AC (AB rfl ?_)))
  repeat first | refine nx rfl ?_ | refine nf rfl ?_
  refine AA (AQ rfl rfl (by omega) (AC (AB rfl ?_)))
  repeat first | refine nx rfl ?_ | refine nf rfl ?_
  refine AA (AQ rfl rfl (by omega) (AC (AB rfl ?_)))
  repeat first | refine nx rfl ?_ | refine nf rfl ?_
  refine AA (At rfl rfl (by omega) (AC (AB rfl ?_)))
  repeat refine nx rfl ?_
  (refine AA (AH rfl ?_) <;> (refine Bq rfl rfl (fun hc => ?_) (fun hc => ?_) <;> try omega) <;> refine AC (AB rfl (AJ ?_)))
  all_goals
   repeat refine nx rfl ?_
   exact AP rfl ⟨congrArg Value.bool (by simp [Cz, Be, styL, List.lookup, many]; try omega), rfl⟩
 by_cases h19 : op = 19
 ·subst h19
  refine AA (AC (AB rfl ?_))
  repeat refine nx rfl ?_
  refine AA (AH rfl ?_)
  repeat refine nx rfl ?_
  refine AA (AQ rfl rfl (by omega) (AC (AB rfl ?_)))
  repeat first | refine nx rfl ?_ | refine nf rfl ?_
  refine AA (AQ rfl rfl (by omega) (AC (AB rfl ?_)))
  repeat first | refine nx rfl ?_ | refine nf rfl ?_
  refine AA (AQ rfl rfl (by omega) (AC (AB rfl ?_)))
  repeat first | refine nx rfl ?_ | refine nf rfl ?_
  refine AA (AQ rfl rfl (by omega) (AC (AB rfl ?_)))
  repeat first | refine nx rfl ?_ | refine nf rfl ?_
  refine AA (AQ rfl rfl (by omega) (AC (AB rfl ?_)))
  repeat first | refine nx rfl ?_ | refine nf rfl ?_
  refine AA (AQ rfl rfl (by omega) (AC (AB rfl ?_)))
  repeat first | refine nx rfl ?_ | refine nf rfl ?_
  refine AA (AQ rfl rfl (by omega) (AC (AB rfl ?_)))
  repeat first | refine nx rfl ?_ | refine nf rfl ?_
  refine AA (AQ rfl rfl (by omega) (AC (AB rfl ?_)))
  repeat first | refine nx rfl ?_ | refine nf rfl ?_
  refine AA (AQ rfl rfl (by omega) (AC (AB rfl ?_)))
  repeat first | refine nx rfl ?_ | refine nf rfl ?_
  refine AA (AQ rfl rfl (by omega) (AC (AB rfl ?_)))
  repeat first | refine nx rfl ?_ | refine nf rfl ?_
  refine AA (AQ rfl rfl (by omega) (AC (AB rfl ?_)))
  repeat first | refine nx rfl ?_ | refine nf rfl ?_
  refine AA (At rfl rfl (by omega) (AC (AB rfl ?_)))
  repeat refine nx rfl ?_
  (refine AA (AH rfl ?_) <;> (refine Bq rfl rfl (fun hc => ?_) (fun hc => ?_) <;> try omega) <;> refine AC (AB rfl (AJ ?_)))
  all_goals
   repeat refine nx rfl ?_
   exact AP rfl ⟨congrArg Value.bool (by simp [Cz, Be, styL, List.lookup, many]; try omega), rfl⟩
 by_cases h7 : op = 7
 ·subst h7
  refine AA (AC (AB rfl ?_))
  repeat refine nx rfl ?_
  refine AA (AH rfl ?_)
  repeat refine nx rfl ?_
  refine AA (AQ rfl rfl (by omega) (AC (AB rfl ?_)))
  repeat first | refine nx rfl ?_ | refine nf rfl ?_
  refine AA (AQ rfl rfl (by omega) (AC (AB rfl ?_)))
  repeat first | refine nx rfl ?_ | refine nf rfl ?_
  refine AA (AQ rfl rfl (by omega) (AC (AB rfl ?_)))
  repeat first | refine nx rfl ?_ | refine nf rfl ?_
  refine AA (AQ rfl rfl (by omega) (AC (AB rfl ?_)))
  repeat first | refine nx rfl ?_ | refine nf rfl ?_
  refine AA (AQ rfl rfl (by omega) (AC (AB rfl ?_)))
  repeat first | refine nx rfl ?_ | refine nf rfl ?_
  refine AA (AQ rfl rfl (by omega) (AC (AB rfl ?_)))
  repeat first | refine nx rfl ?_ | refine nf rfl ?_
  refine AA (AQ rfl rfl (by omega) (AC (AB rfl ?_)))
  repeat first | refine nx rfl ?_ | refine nf rfl ?_
  refine AA (AQ rfl rfl (by omega) (AC (AB rfl ?_)))
  repeat first | refine nx rfl ?_ | refine nf rfl ?_
  refine AA (AQ rfl rfl (by omega) (AC (AB rfl ?_)))
  repeat first | refine nx rfl ?_ | refine nf rfl ?_
  refine AA (AQ rfl rfl (by omega) (AC (AB rfl ?_)))
  repeat first | refine nx rfl ?_ | refine nf rfl ?_
  refine AA (AQ rfl rfl (by omega) (AC (AB rfl ?_)))
  repeat first | refine nx rfl ?_ | refine nf rfl ?_
  refine AA (AQ rfl rfl (by omega) (AC (AB rfl ?_)))
  repeat first | refine nx rfl ?_ | refine nf rfl ?_
  refine AA (At rfl rfl (by omega) (AC (AB rfl ?_)))
  repeat refine nx rfl ?_
  (refine AA (AH rfl ?_) <;> (refine Bq rfl rfl (fun hc => ?_) (fun hc => ?_) <;> try omega) <;> refine AC (AB rfl (AJ ?_)))
  all_goals
   repeat refine nx rfl ?_
   exact AP rfl ⟨congrArg Value.bool (by simp [Cz, Be, styL, List.lookup, many]; try omega), rfl⟩
 by_cases h9 : op = 9
 ·subst h9
  refine AA (AC (AB rfl ?_))
  repeat refine nx rfl ?_
  refine AA (AH rfl ?_)
  repeat refine nx rfl ?_
  refine AA (AQ rfl rfl (by omega) (AC (AB rfl ?_)))
  repeat first | refine nx rfl ?_ | refine nf rfl ?_
  refine AA (AQ rfl rfl (by omega) (AC (AB rfl ?_)))
  repeat first | refine nx rfl ?_ | refine nf rfl ?_
  refine AA (AQ rfl rfl (by omega) (AC (AB rfl ?_)))
  repeat first | refine nx rfl ?_ | refine nf rfl ?_
  refine AA (AQ rfl rfl (by omega) (AC (AB rfl ?_)))
  repeat first | refine nx rfl ?_ | refine nf rfl ?_
  refine AA (AQ rfl rfl (by omega) (AC (AB rfl ?_)))
  repeat first | refine nx rfl ?_ | refine nf rfl ?_
  refine AA (AQ rfl rfl (by omega) (AC (AB rfl ?_)))
  repeat first | refine nx rfl ?_ | refine nf rfl ?_
  refine AA (AQ rfl rfl (by omega) (AC (AB rfl ?_)))
  repeat first | refine nx rfl ?_ | refine nf rfl ?_
  refine AA (AQ rfl rfl (by omega) (AC (AB rfl ?_)))
  repeat first | refine nx rfl ?_ | refine nf rfl ?_
  refine AA (AQ rfl rfl (by omega) (AC (AB rfl ?_)))
  repeat first | refine nx rfl ?_ | refine nf rfl ?_
  refine AA (AQ rfl rfl (by omega) (AC (AB rfl ?_)))
  repeat first | refine nx rfl ?_ | refine nf rfl ?_
  refine AA (AQ rfl rfl (by omega) (AC (AB rfl ?_)))
  repeat first | refine nx rfl ?_ | refine nf rfl ?_
  refine AA (AQ rfl rfl (by omega) (AC (AB rfl ?_)))
  repeat first | refine nx rfl ?_ | refine nf rfl ?_
  refine AA (AQ rfl rfl (by omega) (AC (AB rfl ?_)))
  repeat first | refine nx rfl ?_ | refine nf rfl ?_
  refine AA (At rfl rfl (by omega) (AC (AB rfl ?_)))
  repeat refine nx rfl ?_
  (refine AA (AH rfl ?_) <;> (refine Bq rfl rfl (fun hc => ?_) (fun hc => ?_) <;> try omega) <;> refine AC (AB rfl (AJ ?_)))
  all_goals
   repeat refine nx rfl ?_
   exact AP rfl ⟨congrArg Value.bool (by simp [Cz, Be, styL, List.lookup, many]; try omega), rfl⟩
 by_cases h10 : op = 10
 ·subst h10
  refine AA (AC (AB rfl ?_))
  repeat refine nx rfl ?_
  refine AA (AH rfl ?_)
  repeat refine nx rfl ?_
  refine AA (AQ rfl rfl (by omega) (AC (AB rfl ?_)))
  repeat first | refine nx rfl ?_ | refine nf rfl ?_
  refine AA (AQ rfl rfl (by omega) (AC (AB rfl ?_)))
  repeat first | refine nx rfl ?_ | refine nf rfl ?_
  refine AA (AQ rfl rfl (by omega) (AC (AB rfl ?_)))
  repeat first | refine nx rfl ?_ | refine nf rfl ?_
  refine AA (AQ rfl rfl (by omega) (AC (AB rfl ?_)))
  repeat first | refine nx rfl ?_ | refine nf rfl ?_
  refine AA (AQ rfl rfl (by omega) (AC (AB rfl ?_)))
  repeat first | refine nx rfl ?_ | refine nf rfl ?_
  refine AA (AQ rfl rfl (by omega) (AC (AB rfl ?_)))
  repeat first | refine nx rfl ?_ | refine nf rfl ?_
  refine AA (AQ rfl rfl (by omega) (AC (AB rfl ?_)))
  repeat first | refine nx rfl ?_ | refine nf rfl ?_
  refine AA (AQ rfl rfl (by omega) (AC (AB rfl ?_)))
  repeat first | refine nx rfl ?_ | refine nf rfl ?_
  refine AA (AQ rfl rfl (by omega) (AC (AB rfl ?_)))
  repeat first | refine nx rfl ?_ | refine nf rfl ?_
  refine AA (AQ rfl rfl (by omega) (AC (AB rfl ?_)))
  repeat first | refine nx rfl ?_ | refine nf rfl ?_
  refine AA (AQ rfl rfl (by omega) (AC (AB rfl ?_)))
  repeat first | refine nx rfl ?_ | refine nf rfl ?_
  refine AA (AQ rfl rfl (by omega) (AC (AB rfl ?_)))
  repeat first | refine nx rfl ?_ | refine nf rfl ?_
  refine AA (AQ rfl rfl (by omega) (AC (AB rfl ?_)))
  repeat first | refine nx rfl ?_ | refine nf rfl ?_
  refine AA (AQ rfl rfl (by omega) (AC (AB rfl ?_)))
  repeat first | refine nx rfl ?_ | refine nf rfl ?_
  refine AA (At rfl rfl (by omega) (AC (AB rfl ?_)))
  repeat refine nx rfl ?_
  (refine AA (AH rfl ?_) <;> (refine Bq rfl rfl (fun hc => ?_) (fun hc => ?_) <;> try omega) <;> refine AC (AB rfl (AJ ?_)))
  all_goals
   repeat refine nx rfl ?_
   exact AP rfl ⟨congrArg Value.bool (by simp [Cz, Be, styL, List.lookup, many]; try omega), rfl⟩
 by_cases h16 : op = 16
 ·subst h16
  refine AA (AC (AB rfl ?_))
  repeat refine nx rfl ?_
  refine AA (AH rfl ?_)
  repeat refine nx rfl ?_
  refine AA (AQ rfl rfl (by omega) (AC (AB rfl ?_)))
  repeat first | refine nx rfl ?_ | refine nf rfl ?_
  refine AA (AQ rfl rfl (by omega) (AC (AB rfl ?_)))
  repeat first | refine nx rfl ?_ | refine nf rfl ?_
  refine AA (AQ rfl rfl (by omega) (AC (AB rfl ?_)))
  repeat first | refine nx rfl ?_ | refine nf rfl ?_
  refine AA (AQ rfl rfl (by omega) (AC (AB rfl ?_)))
  repeat first | refine nx rfl ?_ | refine nf rfl ?_
  refine AA (AQ rfl rfl (by omega) (AC (AB rfl ?_)))
  repeat first | refine nx rfl ?_ | refine nf rfl ?_
  refine AA (AQ rfl rfl (by omega) (AC (AB rfl ?_)))
  repeat first | refine nx rfl ?_ | refine nf rfl ?_
  refine AA (AQ rfl rfl (by omega) (AC (AB rfl ?_)))
  repeat first | refine nx rfl ?_ | refine nf rfl ?_
  refine AA (AQ rfl rfl (by omega) (AC (AB rfl ?_)))
  repeat first | refine nx rfl ?_ | refine nf rfl ?_
  refine AA (AQ rfl rfl (by omega) (AC (AB rfl ?_)))
  repeat first | refine nx rfl ?_ | refine nf rfl ?_
  refine AA (AQ rfl rfl (by omega) (AC (AB rfl ?_)))
  repeat first | refine nx rfl ?_ | refine nf rfl ?_
  refine AA (AQ rfl rfl (by omega) (AC (AB rfl ?_)))
  repeat first | refine nx rfl ?_ | refine nf rfl ?_
  refine AA (AQ rfl rfl (by omega) (AC (AB rfl ?_)))
  repeat first | refine nx rfl ?_ | refine nf rfl ?_
  refine AA (AQ rfl rfl (by omega) (AC (AB rfl ?_)))
  repeat first | refine nx rfl ?_ | refine nf rfl ?_
  refine AA (AQ rfl rfl (by omega) (AC (AB rfl ?_)))
  repeat first | refine nx rfl ?_ | refine nf rfl ?_
  refine AA (AQ rfl rfl (by omega) (AC (AB rfl ?_)))
  repeat first | refine nx rfl ?_ | refine nf rfl ?_
  refine AA (At rfl rfl (by omega) (AC (AB rfl ?_)))
  repeat refine nx rfl ?_
  (refine AA (AH rfl ?_) <;> (refine Bq rfl rfl (fun hc => ?_) (fun hc => ?_) <;> try omega) <;> refine AC (AB rfl (AJ ?_)))
  all_goals
   repeat refine nx rfl ?_
   exact AP rfl ⟨congrArg Value.bool (by simp [Cz, Be, styL, List.lookup, many]; try omega), rfl⟩
 by_cases h17 : op = 17
 ·subst h17
  refine AA (AC (AB rfl ?_))
  repeat refine nx rfl ?_
  refine AA (AH rfl ?_)
  repeat refine nx rfl ?_
  refine AA (AQ rfl rfl (by omega) (AC (AB rfl ?_)))
  repeat first | refine nx rfl ?_ | refine nf rfl ?_
  refine AA (AQ rfl rfl (by omega) (AC (AB rfl ?_)))
  repeat first | refine nx rfl ?_ | refine nf rfl ?_
  refine AA (AQ rfl rfl (by omega) (AC (AB rfl ?_)))
  repeat first | refine nx rfl ?_ | refine nf rfl ?_
  refine AA (AQ rfl rfl (by omega) (AC (AB rfl ?_)))
  repeat first | refine nx rfl ?_ | refine nf rfl ?_
  refine AA (AQ rfl rfl (by omega) (AC (AB rfl ?_)))
  repeat first | refine nx rfl ?_ | refine nf rfl ?_
  refine AA (AQ rfl rfl (by omega) (AC (AB rfl ?_)))
  repeat first | refine nx rfl ?_ | refine nf rfl ?_
  refine AA (AQ rfl rfl (by omega) (AC (AB rfl ?_)))
  repeat first | refine nx rfl ?_ | refine nf rfl ?_
  refine AA (AQ rfl rfl (by omega) (AC (AB rfl ?_)))
  repeat first | refine nx rfl ?_ | refine nf rfl ?_
  refine AA (AQ rfl rfl (by omega) (AC (AB rfl ?_)))
  repeat first | refine nx rfl ?_ | refine nf rfl ?_
  refine AA (AQ rfl rfl (by omega) (AC (AB rfl ?_)))
  repeat first | refine nx rfl ?_ | refine nf rfl ?_
  refine AA (AQ rfl rfl (by omega) (AC (AB rfl ?_)))
  repeat first | refine nx rfl ?_ | refine nf rfl ?_
  refine AA (AQ rfl rfl (by omega) (AC (AB rfl ?_)))
  repeat first | refine nx rfl ?_ | refine nf rfl ?_
  refine AA (AQ rfl rfl (by omega) (AC (AB rfl ?_)))
  repeat first | refine nx rfl ?_ | refine nf rfl ?_
  refine AA (AQ rfl rfl (by omega) (AC (AB rfl ?_)))
  repeat first | refine nx rfl ?_ | refine nf rfl ?_
  refine AA (AQ rfl rfl (by omega) (AC (AB rfl ?_)))
  repeat first | refine nx rfl ?_ | refine nf rfl ?_
  refine AA (AQ rfl rfl (by omega) (AC (AB rfl ?_)))
  repeat first | refine nx rfl ?_ | refine nf rfl ?_
  refine AA (At rfl rfl (by omega) (AC (AB rfl ?_)))
  repeat refine nx rfl ?_
  (refine AA (AH rfl ?_) <;> (refine Bq rfl rfl (fun hc => ?_) (fun hc => ?_) <;> try omega) <;> refine AC (AB rfl (AJ ?_)))
  all_goals
   repeat refine nx rfl ?_
   exact AP rfl ⟨congrArg Value.bool (by simp [Cz, Be, styL, List.lookup, many]; try omega), rfl⟩
 by_cases h5 : op = 5
 ·subst h5
  refine AA (AC (AB rfl ?_))
  repeat refine nx rfl ?_
  refine AA (AH rfl ?_)
  repeat refine nx rfl ?_
  refine AA (AQ rfl rfl (by omega) (AC (AB rfl ?_)))
  repeat first | refine nx rfl ?_ | refine nf rfl ?_
  refine AA (AQ rfl rfl (by omega) (AC (AB rfl ?_)))
  repeat first | refine nx rfl ?_ | refine nf rfl ?_
  refine AA (AQ rfl rfl (by omega) (AC (AB rfl ?_)))
  repeat first | refine nx rfl ?_ | refine nf rfl ?_
  refine AA (AQ rfl rfl (by omega) (AC (AB rfl ?_)))
  repeat first | refine nx rfl ?_ | refine nf rfl ?_
  refine AA (AQ rfl rfl (by omega) (AC (AB rfl ?_)))
  repeat first | refine nx rfl ?_ | refine nf rfl ?_
  refine AA (AQ rfl rfl (by omega) (AC (AB rfl ?_)))
  repeat first | refine nx rfl ?_ | refine nf rfl ?_
  refine AA (AQ rfl rfl (by omega) (AC (AB rfl ?_)))
  repeat first | refine nx rfl ?_ | refine nf rfl ?_
  refine AA (AQ rfl rfl (by omega) (AC (AB rfl ?_)))
  repeat first | refine nx rfl ?_ | refine nf rfl ?_
  refine AA (AQ rfl rfl (by omega) (AC (AB rfl ?_)))
  repeat first | refine nx rfl ?_ | refine nf rfl ?_
  refine AA (AQ rfl rfl (by omega) (AC (AB rfl ?_)))
  repeat first | refine nx rfl ?_ | refine nf rfl ?_
  refine AA (AQ rfl rfl (by omega) (AC (AB rfl ?_)))
  repeat first | refine nx rfl ?_ | refine nf rfl ?_
  refine AA (AQ rfl rfl (by omega) (AC (AB rfl ?_)))
  repeat first | refine nx rfl ?_ | refine nf rfl ?_
  refine AA (AQ rfl rfl (by omega) (AC (AB rfl ?_)))
  repeat first | refine nx rfl ?_ | refine nf rfl ?_
  refine AA (AQ rfl rfl (by omega) (AC (AB rfl ?_)))
  repeat first | refine nx rfl ?_ | refine nf rfl ?_
  refine AA (AQ rfl rfl (by omega) (AC (AB rfl ?_)))
  repeat first | refine nx rfl ?_ | refine nf rfl ?_
  refine AA (AQ rfl rfl (by omega) (AC (AB rfl ?_)))
  repeat first | refine nx rfl ?_ | refine nf rfl ?_
  refine AA (AQ rfl rfl (by omega) (AC (AB rfl ?_)))
  repeat first | refine nx rfl ?_ | refine nf rfl ?_
  refine AA (At rfl rfl (by omega) (AC (AB rfl ?_)))
  repeat refine nx rfl ?_
  (refine AA (AH rfl ?_) <;> (refine W_geq rfl rfl (fun hc => ?_) (fun hc => ?_) <;> try omega) <;> refine AC (AB rfl (AJ ?_)))
  all_goals
   repeat refine nx rfl ?_
   exact AP rfl ⟨congrArg Value.bool (by simp [Cz, Be, styL, List.lookup, many]; try omega), rfl⟩
 by_cases h6 : op = 6
 ·subst h6
  refine AA (AC (AB rfl ?_))
  repeat refine nx rfl ?_
  refine AA (AH rfl ?_)
  repeat refine nx rfl ?_
  refine AA (AQ rfl rfl (by omega) (AC (AB rfl ?_)))
  repeat first | refine nx rfl ?_ | refine nf rfl ?_
  refine AA (AQ rfl rfl (by omega) (AC (AB rfl ?_)))
  repeat first | refine nx rfl ?_ | refine nf rfl ?_
  refine AA (AQ rfl rfl (by omega) (AC (AB rfl ?_)))
  repeat first | refine nx rfl ?_ | refine nf rfl ?_
  refine AA (AQ rfl rfl (by omega) (AC (AB rfl ?_)))
  repeat first | refine nx rfl ?_ | refine nf rfl ?_
  refine AA (AQ rfl rfl (by omega) (AC (AB rfl ?_)))
  repeat first | refine nx rfl ?_ | refine nf rfl ?_
  refine AA (AQ rfl rfl (by omega) (AC (AB rfl ?_)))
  repeat first | refine nx rfl ?_ | refine nf rfl ?_
  refine AA (AQ rfl rfl (by omega) (AC (AB rfl ?_)))
  repeat first | refine nx rfl ?_ | refine nf rfl ?_
  refine AA (AQ rfl rfl (by omega) (AC (AB rfl ?_)))
  repeat first | refine nx rfl ?_ | refine nf rfl ?_
  refine AA (AQ rfl rfl (by omega) (AC (AB rfl ?_)))
  repeat first | refine nx rfl ?_ | refine nf rfl ?_
  refine AA (AQ rfl rfl (by omega) (AC (AB rfl ?_)))
  repeat first | refine nx rfl ?_ | refine nf rfl ?_
  refine AA (AQ rfl rfl (by omega) (AC (AB rfl ?_)))
  repeat first | refine nx rfl ?_ | refine nf rfl ?_
  refine AA (AQ rfl rfl (by omega) (AC (AB rfl ?_)))
  repeat first | refine nx rfl ?_ | refine nf rfl ?_
  refine AA (AQ rfl rfl (by omega) (AC (AB rfl ?_)))
  repeat first | refine nx rfl ?_ | refine nf rfl ?_
  refine AA (AQ rfl rfl (by omega) (AC (AB rfl ?_)))
  repeat first | refine nx rfl ?_ | refine nf rfl ?_
  refine AA (AQ rfl rfl (by omega) (AC (AB rfl ?_)))
  repeat first | refine nx rfl ?_ | refine nf rfl ?_
  refine AA (AQ rfl rfl (by omega) (AC (AB rfl ?_)))
  repeat first | refine nx rfl ?_ | refine nf rfl ?_
  refine AA (AQ rfl rfl (by omega) (AC (AB rfl ?_)))
  repeat first | refine nx rfl ?_ | refine nf rfl ?_
  refine AA (AQ rfl rfl (by omega) (AC (AB rfl ?_)))
  repeat first | refine nx rfl ?_ | refine nf rfl ?_
  refine AA (At rfl rfl (by omega) (AC (AB rfl ?_)))
  repeat refine nx rfl ?_
  (refine AA (AH rfl ?_) <;> (refine W_geq rfl rfl (fun hc => ?_) (fun hc => ?_) <;> try omega) <;> refine AC (AB rfl (AJ ?_)))
  all_goals
   repeat refine nx rfl ?_
   exact AP rfl ⟨congrArg Value.bool (by simp [Cz, Be, styL, List.lookup, many]; try omega), rfl⟩
 refine AA (AC (AB rfl ?_))
 repeat refine nx rfl ?_
 refine AA (AH rfl ?_)
 repeat refine nx rfl ?_
 refine AA (AQ rfl rfl (by omega) (AC (AB rfl ?_)))
 repeat first | refine nx rfl ?_ | refine nf rfl ?_
 refine AA (AQ rfl rfl (by omega) (AC (AB rfl ?_)))
 repeat first | refine nx rfl ?_ | refine nf rfl ?_
 refine AA (AQ rfl rfl (by omega) (AC (AB rfl ?_)))
 repeat first | refine nx rfl ?_ | refine nf rfl ?_
 refine AA (AQ rfl rfl (by omega) (AC (AB rfl ?_)))
 repeat first | refine nx rfl ?_ | refine nf rfl ?_
 refine AA (AQ rfl rfl (by omega) (AC (AB rfl ?_)))
 repeat first | refine nx rfl ?_ | refine nf rfl ?_
 refine AA (AQ rfl rfl (by omega) (AC (AB rfl ?_)))
 repeat first | refine nx rfl ?_ | refine nf rfl ?_
 refine AA (AQ rfl rfl (by omega) (AC (AB rfl ?_)))
 repeat first | refine nx rfl ?_ | refine nf rfl ?_
 refine AA (AQ rfl rfl (by omega) (AC (AB rfl ?_)))
 repeat first | refine nx rfl ?_ | refine nf rfl ?_
 refine AA (AQ rfl rfl (by omega) (AC (AB rfl ?_)))
 repeat first | refine nx rfl ?_ | refine nf rfl ?_
 refine AA (AQ rfl rfl (by omega) (AC (AB rfl ?_)))
 repeat first | refine nx rfl ?_ | refine nf rfl ?_
 refine AA (AQ rfl rfl (by omega) (AC (AB rfl ?_)))
 repeat first | refine nx rfl ?_ | refine nf rfl ?_
 refine AA (AQ rfl rfl (by omega) (AC (AB rfl ?_)))
 repeat first | refine nx rfl ?_ | refine nf rfl ?_
 refine AA (AQ rfl rfl (by omega) (AC (AB rfl ?_)))
 repeat first | refine nx rfl ?_ | refine nf rfl ?_
 refine AA (AQ rfl rfl (by omega) (AC (AB rfl ?_)))
 repeat first | refine nx rfl ?_ | refine nf rfl ?_
 refine AA (AQ rfl rfl (by omega) (AC (AB rfl ?_)))
 repeat first | refine nx rfl ?_ | refine nf rfl ?_
 refine AA (AQ rfl rfl (by omega) (AC (AB rfl ?_)))
 repeat first | refine nx rfl ?_ | refine nf rfl ?_
 refine AA (AQ rfl rfl (by omega) (AC (AB rfl ?_)))
 repeat first | refine nx rfl ?_ | refine nf rfl ?_
 refine AA (AQ rfl rfl (by omega) (AC (AB rfl ?_)))
 repeat first | refine nx rfl ?_ | refine nf rfl ?_
 refine AA (AQ rfl rfl (by omega) (AC (AB rfl ?_)))
 repeat first | refine nx rfl ?_ | refine nf rfl ?_
 refine AA (AC (AB rfl ?_))
 repeat refine nx rfl ?_
 refine AP rfl ⟨by rw [args_else]; rfl; intro k hk1 hk2 he; omega, rfl⟩
end Go.Proofs.YtfcgdbmoncnibaaGreatDoor
