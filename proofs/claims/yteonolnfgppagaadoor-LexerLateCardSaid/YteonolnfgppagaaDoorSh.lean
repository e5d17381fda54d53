/- A walk over frames as functions: definitions, and that they are sound for the model's own 'wp'. Conditions: none. -/
import Derived.WalkKit
import Derived.ProofKit
import Derived.Scope
import Derived.Orders
import Derived.Deep.LoopGhost
import Derived.Sort.LoopGhostIn
import Derived.OrdersIn
import Derived.TacticsIn
import Derived.RangeFuncLeaves
namespace Go.Proofs.YteonolnfgppagaaDoor

set_option linter.unusedVariables false
/-! ### Frames as functions -/
abbrev Fr := Nat → Value
abbrev DS := List Deferred
def upd (f : Fr) (i : Nat) (v : Value) : Fr := fun j => bif Nat.beq j i then v else f j
def putF (f : Fr) (d : Option Nat) (v : Value) : Fr := match d with | some i => upd f i v | none => f
def ev (f : Fr) : Operand → Value
  | .tmp t => f t
  | .const v => v
  | .global g => .pointer (some ⟨g, 0, none⟩)
  | .func g => .func (.func g) #[] #[]
def evL (f : Fr) : List Operand → List Value
  | [] => []
  | x :: l => ev f x :: evL f l
def argF : List Value → Fr
  | [], _ => undef
  | v :: _, 0 => v
  | _ :: l, i + 1 => argF l i
def ov : List (Nat × Value) → Fr → Fr
  | [], f => f
  | (i, v) :: l, f => upd (ov l f) i v
/-- the frame holds these values -/
def agr : List (Nat × Value) → Fr → Prop
  | [], _ => True
  | (i, v) :: l, f => f i = v ∧ agr l f

theorem ov_of_agr {l : List (Nat × Value)} {f : Fr} (h : agr l f) : ov l f = f := by
  induction l with
  | nil => rfl
  | cons p l ih =>
    obtain ⟨i, v⟩ := p
    obtain ⟨h1, h2⟩ := h
    funext j
    simp only [ov, upd, ih h2]
    cases hj : Nat.beq j i with
    | true => simp [Nat.eq_of_beq_eq_true hj, h1]
    | false => rfl

def toFr (a : Act) : Fr := fun i => a.tmps.getD i undef

theorem ev_toFr (a : Act) : a.eval = ev (toFr a) := by funext x; cases x <;> rfl

theorem toFr_put {a : Act} {d : Nat} (v : Value) (h : d < a.tmps.size) : toFr (a.put (some d) v) = upd (toFr a) d v := by
  funext j
  simp only [toFr, Act.put, upd, Array.getD_eq_getD_getElem?]
  cases hj : Nat.beq j d with
  | true =>
    have := Nat.eq_of_beq_eq_true hj
    subst this
    simp [h]
  | false =>
    have hne : d ≠ j := fun e => by subst e; simp at hj
    simp [Array.getElem?_setIfInBounds_ne hne]

def dOk (n : Nat) : Option Nat → Bool
  | some d => Nat.blt d n
  | none => true

theorem toFr_putF {a : Act} {d : Option Nat} (v : Value) (h : dOk a.tmps.size d = true) : toFr (a.put d v) = putF (toFr a) d v := by
  cases d with
  | none => rfl
  | some d => exact toFr_put v (by simpa [dOk, Nat.blt_eq] using h)

theorem size_put (a : Act) (d : Option Nat) (v : Value) : (a.put d v).tmps.size = a.tmps.size := by
  cases d <;> simp [Act.put]
theorem defers_put (a : Act) (d : Option Nat) (v : Value) : (a.put d v).defers = a.defers := by
  cases d <;> rfl

/-! ### One operation, a list of operations -/
def stepP (P : Program) (o : Oper) (f : Fr) (ds : DS) (w : World) (K : Value → DS → World → Prop) (Z : List PanicEntry → World → Prop) : Prop :=
  match (execOp (ev f) o).run P w with
  | .ok (.value v) w' => K v ds w'
  | .ok .skip w' => K undef ds w'
  | .ok (.defer d) w' => K undef (d :: ds) w'
  | .ok (.enter g args) w' => Calls P g args w' fun e w'' => match e with | .returned v => K v ds w'' | .panicked ch => Z ch w'' | .outgrown => False
  | .ok (.round l g tmps assign body) w' => RoundIn Fence.wide 0 P l g tmps assign body w' fun e w'' => match e with | .returned v => K v ds w'' | .panicked ch => Z ch w'' | .outgrown => False
  | .halt (.panic v) w' => Z [{ v, recovered := false }] w'
  | _ => False

def guardVal (all : Array Oper) (f : Fr) (j : Nat) : Option Bool :=
  match (all[j]?).bind (·.dst) with
  | some t => (match f t with | .bool b => some b | _ => none)
  | none => none
def wantedF (all : Array Oper) (f : Fr) (g : Option (Nat × Bool)) : Bool :=
  match g with
  | none => true
  | some (j, want) => guardVal all f j == some want

theorem yielded_toFr (all : Array Oper) (a : Act) (j : Nat) : yielded all a.tmps j = guardVal all (toFr a) j := by
  unfold yielded guardVal toFr
  cases h : (all[j]?).bind (·.dst) with
  | none => rfl
  | some t =>
    simp only [Option.bind_some, Array.getD_eq_getD_getElem?]
    cases ht : a.tmps[t]? with
    | none => rfl
    | some v => cases v <;> rfl

theorem wanted_toFr (all : Array Oper) (a : Act) (o : Oper) : Region.wanted o (yielded all a.tmps) = wantedF all (toFr a) o.guard := by
  unfold Region.wanted wantedF
  cases o.guard with
  | none => rfl
  | some p => obtain ⟨j, want⟩ := p; simp only [yielded_toFr]

def WOps (P : Program) (all : Array Oper) (Z : Fr → DS → List PanicEntry → World → Prop) (K : Fr → DS → World → Prop) : List Oper → Fr → DS → World → Prop
  | [], f, ds, w => K f ds w
  | o :: rest, f, ds, w =>
    if wantedF all f o.guard then stepP P o f ds w (fun v ds w => WOps P all Z K rest (putF f o.dst v) ds w) (Z f ds)
    else WOps P all Z K rest (putF f o.dst undef) ds w

/-! ### Code -/
/-- how many slots; in which round of a range over a function -/
structure Cf where
  n : Nat
  r : Option Nat
/-- no fence, in this round -/
def rnd (r : Option Nat) : Fence := { Fence.wide with round := r }
abbrev Post := Exit → Fr → DS → World → Prop
def thenQ (k : Fr → DS → World → Prop) (Q : Post) : Post
  | .normal => k
  | e => Q e
def blockQ (id : Nat) (Q : Post) : Post
  | .exit i => if i = id then Q .normal else Q (.exit i)
  | e => Q e
def scopeQ (Q : Post) : Post
  | .goto _ => fun _ _ _ => False
  | e => Q e
def liftQ (n : Nat) (Q : Post) : Exit → Act → World → Prop := fun e a w => a.tmps.size = n ∧ Q e (toFr a) a.defers w

def WC (P : Program) (n : Cf) : Code → Post → Fr → DS → World → Prop
  | .skip, Q => Q .normal
  | .label _, Q => Q .normal
  | .ret, Q => Q .ret
  | .exit id, Q => Q (.exit id)
  | .goto _, _ => fun _ _ _ => False
  | .refuse _, _ => fun _ _ _ => False
  | .seq a b, Q => WC P n a (thenQ (WC P n b Q) Q)
  | .block id c, Q => WC P n c (blockQ id Q)
  | .scope c, Q => WC P n c (scopeQ Q)
  | .cond c x y, Q => fun f ds w => match ev f c with
    | .bool b => if b then WC P n x Q f ds w else WC P n y Q f ds w
    | _ => False
  | .region id ops draw, Q => fun f ds w =>
    match draw with
    | false => WOps P ops (fun f ds ch w => Q (.panic ch) f ds w) (Q .normal) ops.toList f ds w
    | true => ∀ a, a.tmps.size = n.n → toFr a = f → a.defers = ds → (Code.region id ops true).wpIn (rnd n.r) 0 P (liftQ n.n Q) a w
  | .loop c, Q => fun f ds w => ∃ (α : Type) (I : α → Fr → DS → World → Prop) (μ : α → Nat) (x : α), I x f ds w ∧
      ∀ x f ds w, I x f ds w → WC P n c (thenQ (fun f' ds' w' => ∃ y, I y f' ds' w' ∧ μ y < μ x) Q) f ds w
  | .rangeFunc g ps as body, Q => fun f ds w => ∀ a, a.tmps.size = n.n → toFr a = f → a.defers = ds → (Code.rangeFunc g ps as body).wpIn (rnd n.r) 0 P (liftQ n.n Q) a w

def isDefer : Op → Bool
  | .defer _ => true
  | _ => false
def opOk (n : Nat) (inRound : Bool) (o : Oper) : Bool := dOk n o.dst && (!inRound || !isDefer o.op)
/-- every slot that the code writes is one of n; in a round nothing is deferred -/
def codeOk (n : Nat) (inRound : Bool) : Code → Bool
  | .seq a b => codeOk n inRound a && codeOk n inRound b
  | .block _ c => codeOk n inRound c
  | .scope c => !inRound && codeOk n inRound c
  | .cond _ x y => codeOk n inRound x && codeOk n inRound y
  | .region _ ops draw => draw || ops.toList.all (opOk n inRound)
  | .loop c => codeOk n inRound c
  | _ => true

theorem semAt_ok {r : Option Nat} {n : Nat} {o : Oper} (h : opOk n r.isSome o = true) (ρ : Operand → Value) : Oper.semAt r ρ o = execOp ρ o := by
  cases r with
  | none => rfl
  | some l =>
    refine Oper.semAt_eq _ ρ o fun c hc => ?_
    simp [opOk, hc, isDefer] at h

theorem uponIn_of {P : Program} {r : Option Nat} {n : Nat} {o : Oper} {a : Act} {w : World} {K : Fr → DS → World → Prop} {Q : Post} {K' : Act → World → Prop} (hn : a.tmps.size = n) (hok : opOk n r.isSome o = true)
    (next : ∀ v ds w', K (putF (toFr a) o.dst v) ds w' → K' ({ a with defers := ds }.put o.dst v) w')
    (h : stepP P o (toFr a) a.defers w (fun v ds w => K (putF (toFr a) o.dst v) ds w) (fun ch w => Q (.panic ch) (toFr a) a.defers w)) : o.wpIn (rnd r) 0 P a w K' (liftQ n Q) := by
  refine ⟨fun _ _ => trivial, ?_⟩
  have hs : (rnd r).round = r := rfl
  rw [hs, semAt_ok hok, ev_toFr]
  unfold stepP at h
  revert h
  generalize (execOp (ev (toFr a)) o).run P w = res
  intro h
  have hdep : (rnd r).depth.isSome = true → 1 ≤ 0 := fun hh => by simp [rnd, Fence.wide] at hh
  cases res with
  | halt x w' => cases x <;> first | exact h.elim | exact ⟨hn, h⟩
  | ok m w' =>
    cases m with
    | value v => exact next v a.defers w' h
    | skip => exact next undef a.defers w' h
    | defer d => exact next undef (d :: a.defers) w' h
    | enter g args =>
      refine ⟨hdep, ?_⟩
      have hc : CallsIn Fence.wide (0 - 1) P g args w' _ := callsIn_wide.2 h
      refine CallsIn.mono (F := rnd r) hc fun e w'' he => ?_
      cases e with
      | returned v => exact next v a.defers w'' he
      | panicked ch => exact ⟨hn, he⟩
      | outgrown => exact he.elim
    | round l g tmps assign body =>
      refine ⟨hdep, ?_⟩
      have hc : RoundIn (rnd r) (0 - 1) P l g tmps assign body w' _ := h
      refine RoundIn.mono hc fun e w'' he => ?_
      cases e with
      | returned v => exact next v a.defers w'' he
      | panicked ch => exact ⟨hn, he⟩
      | outgrown => exact he.elim
    | _ => exact h.elim

theorem next_of {n : Nat} {o : Oper} {a : Act} {K : Fr → DS → World → Prop} {K' : Act → World → Prop} (hn : a.tmps.size = n) (hok : dOk n o.dst = true)
    (hK : ∀ a' w', a'.tmps.size = n → K (toFr a') a'.defers w' → K' a' w') : ∀ v ds w', K (putF (toFr a) o.dst v) ds w' → K' ({ a with defers := ds }.put o.dst v) w' := by
  intro v ds w' h'
  refine hK _ w' (by rw [size_put]; exact hn) ?_
  rw [defers_put]
  have e : toFr ({ a with defers := ds }.put o.dst v) = putF (toFr a) o.dst v := toFr_putF (a := { a with defers := ds }) (d := o.dst) v (by rw [hn]; exact hok)
  rw [e]
  exact h'

theorem wpListIn_of_WOps {P : Program} {all : Array Oper} {n : Nat} {r : Option Nat} {Q : Post} : ∀ (l : List Oper) (a : Act) (w : World), a.tmps.size = n → l.all (opOk n r.isSome) = true →
    WOps P all (fun f ds ch w => Q (.panic ch) f ds w) (Q .normal) l (toFr a) a.defers w → wpListIn (rnd r) 0 P all (liftQ n Q) l a w
  | [], a, w, hn, _, h => ⟨hn, h⟩
  | o :: rest, a, w, hn, hok, h => by
    simp only [List.all_cons, Bool.and_eq_true] at hok
    have hd : dOk n o.dst = true := by have := hok.1; simp only [opOk, Bool.and_eq_true] at this; exact this.1
    have next := next_of (n := n) (o := o) (a := a) (K := WOps P all (fun f ds ch w => Q (.panic ch) f ds w) (Q .normal) rest) (K' := wpListIn (rnd r) 0 P all (liftQ n Q) rest) hn hd
      (fun a' w' h1 h2 => wpListIn_of_WOps rest a' w' h1 hok.2 h2)
    unfold wpListIn
    unfold WOps at h
    rw [wanted_toFr]
    by_cases hw : wantedF all (toFr a) o.guard = true
    · rw [if_pos hw] at h
      rw [if_pos hw]
      exact uponIn_of hn hok.1 next h
    · rw [if_neg hw] at h
      rw [if_neg hw]
      exact ⟨fun _ _ => trivial, next undef a.defers w h⟩

theorem lift_mono {n : Nat} {Q Q' : Post} (h : ∀ e f ds w, Q e f ds w → Q' e f ds w) : ∀ e a w, liftQ n Q e a w → liftQ n Q' e a w :=
  fun e a w ⟨h1, h2⟩ => ⟨h1, h e _ _ w h2⟩

theorem wpIn_of_WC {P : Program} {n : Cf} : ∀ (c : Code) (Q : Post) (a : Act) (w : World), a.tmps.size = n.n → codeOk n.n n.r.isSome c = true →
    WC P n c Q (toFr a) a.defers w → c.wpIn (rnd n.r) 0 P (liftQ n.n Q) a w
  | .skip, Q, a, w, hn, _, h => wpIn_skip ⟨hn, h⟩
  | .label _, Q, a, w, hn, _, h => wpIn_label ⟨hn, h⟩
  | .ret, Q, a, w, hn, _, h => wpIn_ret ⟨hn, h⟩
  | .exit _, Q, a, w, hn, _, h => wpIn_exit ⟨hn, h⟩
  | .goto _, _, _, _, _, _, h => h.elim
  | .refuse _, _, _, _, _, _, h => h.elim
  | .seq x y, Q, a, w, hn, hok, h => by
    simp only [codeOk, Bool.and_eq_true] at hok
    refine wpIn_seq (wpIn_mono (wpIn_of_WC x _ a w hn hok.1 h) ?_)
    intro e a w hq
    obtain ⟨h1, h2⟩ := hq
    cases e with
    | normal => exact wpIn_of_WC y Q a w h1 hok.2 h2
    | _ => exact ⟨h1, h2⟩
  | .block id c, Q, a, w, hn, hok, h => by
    refine wpIn_block (wpIn_mono (wpIn_of_WC c _ a w hn hok h) ?_)
    intro e a w hq
    obtain ⟨h1, h2⟩ := hq
    cases e with
    | exit i =>
      simp only [Exit.inBlock]
      simp only [blockQ] at h2
      by_cases hi : i = id
      · rw [if_pos hi] at h2 ⊢; exact ⟨h1, h2⟩
      · rw [if_neg hi] at h2 ⊢; exact ⟨h1, h2⟩
    | _ => exact ⟨h1, h2⟩
  | .scope c, Q, a, w, hn, hok, h => by
    simp only [codeOk, Bool.and_eq_true, Bool.not_eq_true'] at hok
    obtain ⟨nn, r⟩ := n
    cases r with
    | some l => simp at hok
    | none =>
      refine wpIn_wide.2 (wp_scope_straight (wp_mono (wpIn_wide.1 (wpIn_of_WC (n := ⟨nn, none⟩) c _ a w hn hok.2 h)) ?_))
      intro e a w hq
      obtain ⟨h1, h2⟩ := hq
      cases e with
      | goto l => exact h2.elim
      | _ => exact ⟨h1, h2⟩
  | .cond c x y, Q, a, w, hn, hok, h => by
    simp only [codeOk, Bool.and_eq_true] at hok
    simp only [WC] at h
    have he := ev_toFr a
    cases hc : ev (toFr a) c <;> simp only [hc] at h
    case bool b =>
      refine wpIn_cond (t := b) (by rw [he]; exact hc) ?_
      cases b with
      | true => exact wpIn_of_WC x Q a w hn hok.1 h
      | false => exact wpIn_of_WC y Q a w hn hok.2 h
    all_goals exact h.elim
  | .region id ops draw, Q, a, w, hn, hok, h => by
    cases draw with
    | false =>
      simp only [codeOk, Bool.false_or] at hok
      exact wpIn_region_list (wpListIn_of_WOps ops.toList a w hn hok h)
    | true => exact h a hn rfl rfl
  | .loop c, Q, a, w, hn, hok, h => by
    obtain ⟨α, I, μ, x, h0, hr⟩ := h
    refine wpIn_loop_ghost (fun (m : Nat) a w => ∃ x, μ x = m ∧ a.tmps.size = n.n ∧ I x (toFr a) a.defers w) (μ x) ⟨x, rfl, hn, h0⟩ ?_
    rintro m a w ⟨x, rfl, h1, h2⟩
    refine wpIn_mono (wpIn_of_WC c _ a w h1 hok (hr _ _ _ _ h2)) ?_
    intro e a' w' hq
    obtain ⟨h3, h4⟩ := hq
    cases e with
    | normal => obtain ⟨y, h5, h6⟩ := h4; exact ⟨μ y, h6, y, rfl, h3, h5⟩
    | _ => exact ⟨h3, h4⟩
  | .rangeFunc _ _ _ _, Q, a, w, hn, _, h => h a hn rfl rfl

/-! ### Functions -/
def tupleOf : List Value → Value
  | [v] => v
  | l => .tuple l.toArray
def resVals (P : Program) : List ResultVar → Fr → World → (List Value → Prop) → Prop
  | [], _, _, k => k []
  | .tmp t :: r, f, w, k => resVals P r f w fun l => k (f t :: l)
  | .cell a T :: r, f, w, k => ∃ ad v, f a = .pointer (some ad) ∧ (loadVar T ad).run P w = .ok v w ∧ resVals P r f w fun l => k (v :: l)

theorem results_of_resVals {P : Program} {w : World} {tmps : Array Value} {g : ResultVar → Sem Value} (g1 : ∀ t, g (.tmp t) = pure (tmps.getD t undef))
    (g2 : ∀ a t, g (.cell a t) = (do loadVar t (← asAddr (tmps.getD a undef)))) : ∀ (rs : List ResultVar) (k : List Value → Prop), resVals P rs (fun i => tmps.getD i undef) w k →
    ∃ l, k l ∧ (rs.mapM g).run P w = .ok l w
  | [], k, h => ⟨[], h, by simp⟩
  | .tmp t :: r, k, h => by
    obtain ⟨l, h1, h2⟩ := results_of_resVals g1 g2 r _ h
    refine ⟨_, h1, ?_⟩
    simp only [List.mapM_cons, g1, Sem.run_bind, Sem.run_pure, Result.andThen_ok, h2]
  | .cell a T :: r, k, h => by
    obtain ⟨ad, v, e1, e2, h'⟩ := h
    obtain ⟨l, h1, h2⟩ := results_of_resVals g1 g2 r _ h'
    refine ⟨_, h1, ?_⟩
    have e1' : tmps.getD a undef = .pointer (some ad) := e1
    have ea : asAddr (.pointer (some ad)) = pure ad := rfl
    simp only [List.mapM_cons, g2, e1', ea, Sem.run_bind, Sem.run_pure, Result.andThen_ok, e2, h2]

theorem run_results {P : Program} {fn : Func} {w : World} {tmps : Array Value} {k : List Value → Prop} (h : resVals P fn.results.toList (fun i => tmps.getD i undef) w k) :
    ∃ l, k l ∧ (results fn tmps).run P w = .ok (tupleOf l) w := by
  unfold results
  rw [Array.mapM_eq_mapM_toList]
  have hm : ∀ (x : Sem (List Value)), (Functor.map List.toArray x : Sem (Array Value)) = x >>= fun l => pure l.toArray := fun _ => rfl
  rw [hm]
  simp only [Sem.run_bind]
  obtain ⟨l, h1, h2⟩ := results_of_resVals (g := fun | .tmp t => pure (tmps.getD t undef) | .cell a t => do loadVar t (← asAddr (tmps.getD a undef))) (fun _ => rfl) (fun _ _ => rfl) _ _ h
  refine ⟨l, h1, ?_⟩
  refine (congrArg (fun r => Result.andThen (Result.andThen r _) _) h2).trans ?_
  simp only [Result.andThen_ok, Sem.run_pure]
  match l with
  | [] => rfl
  | [v] => rfl
  | _ :: _ :: _ => rfl

def finQ (P : Program) (fn : Func) (R : Value → World → Prop) (Z : List PanicEntry → World → Prop) : Post
  | .normal => fun f ds w => ds = [] ∧ resVals P fn.results.toList f w fun l => R (tupleOf l) w
  | .ret => fun f ds w => ds = [] ∧ resVals P fn.results.toList f w fun l => R (tupleOf l) w
  | .panic ch => fun _ ds w => ds = [] ∧ Z ch w
  | _ => fun _ _ _ => False

/-- a call of function g returns a value with R, or panics with Z -/
def FnP (P : Program) (g : FuncId) (args : List Value) (w : World) (R : Value → World → Prop) (Z : List PanicEntry → World → Prop) : Prop :=
  Calls P g args.toArray w fun e w' => match e with | .returned v => R v w' | .panicked ch => Z ch w' | .outgrown => False
/-- a call of function g returns a value with R -/
def Fn (P : Program) (g : FuncId) (args : List Value) (w : World) (R : Value → World → Prop) : Prop := FnP P g args w R fun _ _ => False

theorem FnP.mono {P : Program} {g : FuncId} {args : List Value} {w : World} {R R' : Value → World → Prop} {Z Z' : List PanicEntry → World → Prop}
    (h : FnP P g args w R Z) (hr : ∀ v w', R v w' → R' v w') (hz : ∀ ch w', Z ch w' → Z' ch w') : FnP P g args w R' Z' :=
  Calls.mono h fun e w' he => by cases e with
    | returned v => exact hr v w' he
    | panicked ch => exact hz ch w' he
    | outgrown => exact he
theorem Fn.mono {P : Program} {g : FuncId} {args : List Value} {w : World} {R R' : Value → World → Prop}
    (h : Fn P g args w R) (hr : ∀ v w', R v w' → R' v w') : Fn P g args w R' := FnP.mono h hr fun _ _ h => h

theorem argF_get : ∀ (l : List Value) (i : Nat), argF l i = l.getD i undef
  | [], i => by simp [argF]
  | _ :: _, 0 => rfl
  | _ :: l, i + 1 => by simp [argF, argF_get l i]

theorem toFr_args (l : List Value) (k : Nat) : toFr { tmps := l.toArray ++ Array.replicate k undef, defers := [] } = argF l := by
  funext i
  rw [argF_get]
  simp only [toFr, Array.getD_eq_getD_getElem?, List.getD_eq_getElem?_getD, Array.getElem?_append]
  by_cases h : i < l.length
  · simp [h]
  · have e : l[i]? = none := List.getElem?_eq_none (by omega)
    rw [e]
    simp only [List.size_toArray, h, if_false]
    by_cases h2 : i - l.length < k
    · simp [h2]
    · rw [Array.getElem?_eq_none (by simp; omega)]

/-- how a function is left whose activation has deferred calls, or marks of ranges over functions -/
def lv (P : Program) (fn : Func) (R : Value → World → Prop) (Z : List PanicEntry → World → Prop) (f : Fr) : DS → FrameMode → World → Prop
  | [], .returning, w => resVals P fn.results.toList f w fun l => R (tupleOf l) w
  | [], .panicking ch, w => Z ch w
  | [], .run, _ => False
  | d :: ds, u, w => u ≠ .run ∧
      ((∃ r w', d.target = .collected r ∧ (Instr.takeDeferred r).run P w = .ok [] w' ∧ lv P fn R Z f ds u w') ∨
       (∃ fv cap g args, d.target = .fn fv cap ∧ (invoke d.target d.args).run P w = .ok (.enter g args) w ∧
        CallsDIn Fence.wide 0 P g args u w fun
          | .returned _, u', w' => lv P fn R Z f ds (settle u') w'
          | .panicked ch, u', w' => lv P fn R Z f ds (raised u' ch) w'
          | .outgrown, _, _ => False))
def finD (P : Program) (fn : Func) (R : Value → World → Prop) (Z : List PanicEntry → World → Prop) : Post
  | .normal => fun f ds w => lv P fn R Z f ds .returning w
  | .ret => fun f ds w => lv P fn R Z f ds .returning w
  | .panic ch => fun f ds w => lv P fn R Z f ds (.panicking ch) w
  | _ => fun _ _ _ => False

def endR (R : Value → World → Prop) (Z : List PanicEntry → World → Prop) : Ending → World → Prop
  | .returned v, w => R v w
  | .panicked ch, w => Z ch w
  | .outgrown, _ => False

theorem leaves_of_lv {P : Program} {fn : Func} {R : Value → World → Prop} {Z : List PanicEntry → World → Prop} {tmps : Array Value} : ∀ (ds : DS) (u : FrameMode) (w : World), lv P fn R Z (fun i => tmps.getD i undef) ds u w →
    LeavesInM Fence.wide 0 P fn tmps (endR R Z) ds u w
  | [], .returning, w, h => by
    obtain ⟨l, h1, h2⟩ := run_results h
    exact ⟨_, h2, h1⟩
  | [], .panicking ch, w, h => h
  | [], .run, w, h => h
  | d :: ds, u, w, h => by
    obtain ⟨hu, h⟩ := h
    refine ⟨hu, ?_⟩
    rcases h with ⟨r, w', h1, h2, h3⟩ | ⟨fv, cap, g, args, h1, h2, h3⟩
    · exact .inl ⟨r, w', h1, h2, leaves_of_lv ds u w' h3⟩
    · refine .inr ⟨fun hh => by simp [Fence.wide] at hh, fv, cap, g, args, h1, h2, fun _ _ => trivial, h3.1, ?_⟩
      intro c cs hc hr
      obtain ⟨e, u', w', fr, hR, h4⟩ := h3.2 c cs hc hr
      refine ⟨e, u', w', fr, ?_, h4⟩
      cases e with
      | returned v => exact leaves_of_lv ds _ _ hR
      | panicked ch => exact leaves_of_lv ds _ _ hR
      | outgrown => exact hR.elim

theorem fnD_of_wc {P : Program} {g : FuncId} {fn : Func} {c : Code} {args : List Value} {w : World} {R : Value → World → Prop} {Z : List PanicEntry → World → Prop}
    (hf : P.funcs[g]? = some fn) (hb : fn.body = some c) {n : Nat} (hn : fn.ntmps = n) (hl : args.length ≤ n) (hok : codeOk n false c = true)
    (h : WC P ⟨n, none⟩ c (finD P fn R Z) (argF args) [] w) : FnP P g args w R Z := by
  have hs : (args.toArray ++ Array.replicate (fn.ntmps - args.toArray.size) undef).size = n := by simp [hn]; omega
  have h' := wpIn_of_WC (P := P) (n := ⟨n, none⟩) c (finD P fn R Z) { tmps := args.toArray ++ Array.replicate (fn.ntmps - args.toArray.size) undef, defers := [] } w hs hok (by rw [toFr_args]; exact h)
  have hc : CallsIn Fence.wide 0 P g args.toArray w (endR R Z) := by
    refine callsIn_of_wp_marks hf hb trivial ?_
    refine wpIn_mono h' ?_
    rintro e a w' ⟨_, hq⟩
    cases e with
    | normal => exact leaves_of_lv _ _ _ hq
    | ret => exact leaves_of_lv _ _ _ hq
    | panic ch => exact leaves_of_lv _ _ _ hq
    | exit _ => exact hq.elim
    | goto _ => exact hq.elim
    | outgrown => exact hq.elim
  refine Calls.mono (callsIn_wide.1 hc) fun e w' he => ?_
  cases e <;> exact he

theorem fnP_of_wc {P : Program} {g : FuncId} {fn : Func} {c : Code} {args : List Value} {w : World} {R : Value → World → Prop} {Z : List PanicEntry → World → Prop}
    (hf : P.funcs[g]? = some fn) (hb : fn.body = some c) {n : Nat} (hn : fn.ntmps = n) (hl : args.length ≤ n) (hok : codeOk n false c = true)
    (h : WC P ⟨n, none⟩ c (finQ P fn R Z) (argF args) [] w) : FnP P g args w R Z := by
  have hs : (args.toArray ++ Array.replicate (fn.ntmps - args.toArray.size) undef).size = n := by simp [hn]; omega
  have h' := wpIn_of_WC (P := P) (n := ⟨n, none⟩) c (finQ P fn R Z) { tmps := args.toArray ++ Array.replicate (fn.ntmps - args.toArray.size) undef, defers := [] } w hs hok (by rw [toFr_args]; exact h)
  have hc : CallsIn Fence.wide 0 P g args.toArray w (endR R Z) := by
    refine callsIn_of_wp_marks hf hb trivial ?_
    refine wpIn_mono h' ?_
    rintro e a w' ⟨_, hq⟩
    cases e with
    | normal => obtain ⟨hd, hr⟩ := hq; simp only [bodyPostM, hd]; exact leaves_of_lv [] .returning w' hr
    | ret => obtain ⟨hd, hr⟩ := hq; simp only [bodyPostM, hd]; exact leaves_of_lv [] .returning w' hr
    | panic ch => obtain ⟨hd, hr⟩ := hq; simp only [bodyPostM, hd]; exact leaves_of_lv (R := R) (fn := fn) (tmps := a.tmps) [] (.panicking ch) w' hr
    | exit _ => exact hq.elim
    | goto _ => exact hq.elim
    | outgrown => exact hq.elim
  refine Calls.mono (callsIn_wide.1 hc) fun e w' he => ?_
  cases e <;> exact he

attribute [irreducible] WC WOps thenQ blockQ scopeQ finQ finD stepP

end Go.Proofs.YteonolnfgppagaaDoor
