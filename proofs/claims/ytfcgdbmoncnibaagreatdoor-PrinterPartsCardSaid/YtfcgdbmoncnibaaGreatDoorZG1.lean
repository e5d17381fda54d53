/- A walk over frames as functions: definitions, and that they are sound for the model's own 'wp'. Facts about a world's blocks: what stays, what a block holds, slices that read as cells. A rule for each operation of the walk over frames. Rules for slices of the call's own: append, make, copy; for whole structs; for function values. Conditions: none. -/
import Derived.WalkKit
import Derived.ProofKit
import Derived.Scope
import Derived.Orders
import Derived.Deep.LoopGhost
import Derived.Sort.LoopGhostIn
import Derived.OrdersIn
import Derived.TacticsIn
import Derived.RangeFuncLeaves
import Derived.Laws.AppendOwn
import Derived.Laws.MakeOwn
import Derived.Laws.CopyRow
import Derived.Deep.Draws
import Derived.Laws.OwnMore
import Derived.Laws.CopyOwn

namespace Go.Proofs.YtfcgdbmoncnibaaGreatDoor
set_option linter.unusedVariables false
abbrev Fr := Nat → Value
abbrev DS := List Deferred
def upd (f : Fr) (i : Nat) (v : Value) : Fr := fun j => bif Nat.beq j i then v else f j
def putF (f : Fr) (d : Option Nat) (v : Value) : Fr := match d with | some i => upd f i v | none => f
def ev (f : Fr) : Operand → Value
 | .tmp t => f t
 | .const v => v
 | .global g => .pointer (some ⟨g, 0, none⟩)
 | .func g => .func (.func g) #[] #[]
def evL (f : Fr) : List Operand → List Value
 | [] => []
 | x :: l => ev f x :: evL f l
def argF : List Value → Fr
 | [], _ => undef
 | v :: _, 0 => v
 | _ :: l, i + 1 => argF l i
def ov : List (Nat × Value) → Fr → Fr
 | [], f => f
 | (i, v) :: l, f => upd (ov l f) i v
def agr : List (Nat × Value) → Fr → Prop
 | [], _ => True
 | (i, v) :: l, f => f i = v ∧ agr l f
theorem ov_of_agr {l : List (Nat × Value)} {f : Fr} (h : agr l f) : ov l f = f := by
 induction l with
 | nil => rfl
 | cons p l ih =>
  obtain ⟨i, v⟩ := p
  obtain ⟨h1, h2⟩ := h
  funext j
  simp only [ov, upd, ih h2]
  cases hj : Nat.beq j i with
  | true => simp [Nat.eq_of_beq_eq_true hj, h1]
  | false => rfl
def CC (a : Act) : Fr := fun i => a.tmps.getD i undef
theorem ev_toFr (a : Act) : a.eval = ev (CC a) := by funext x; cases x <;> rfl
theorem toFr_put {a : Act} {d : Nat} (v : Value) (h : d < a.tmps.size) : CC (a.put (some d) v) = upd (CC a) d v := by
 funext j
 simp only [CC, Act.put, upd, Array.getD_eq_getD_getElem?]
 cases hj : Nat.beq j d with
 | true =>
  have := Nat.eq_of_beq_eq_true hj
  subst this
  simp [h]
 | false =>
  have hne : d ≠ j := fun e => by subst e; simp at hj
  simp [Array.getElem?_setIfInBounds_ne hne]
def dOk (n : Nat) : Option Nat → Bool
 | some d => Nat.blt d n
 | none => true
theorem toFr_putF {a : Act} {d : Option Nat} (v : Value) (h : dOk a.tmps.size d = true) : CC (a.put d v) = putF (CC a) d v := by
 cases d with
 | none => rfl
 | some d => exact toFr_put v (by simpa [dOk, Nat.blt_eq] using h)
theorem size_put (a : Act) (d : Option Nat) (v : Value) : (a.put d v).tmps.size = a.tmps.size := by
 cases d <;> simp [Act.put]
theorem defers_put (a : Act) (d : Option Nat) (v : Value) : (a.put d v).defers = a.defers := by
 cases d <;> rfl
def By (P : Program) (o : Oper) (f : Fr) (ds : DS) (w : World) (K : Value → DS → World → Prop) (Z : List PanicEntry → World → Prop) : Prop :=
 match (execOp (ev f) o).run P w with
 | .ok (.value v) w' => K v ds w'
 | .ok .skip w' => K undef ds w'
 | .ok (.defer d) w' => K undef (d :: ds) w'
 | .ok (.enter g args) w' => Calls P g args w' fun e w'' => match e with | .returned v => K v ds w'' | .panicked ch => Z ch w'' | .outgrown => False
 | .ok (.round l g tmps assign body) w' => RoundIn Fence.wide 0 P l g tmps assign body w' fun e w'' => match e with | .returned v => K v ds w'' | .panicked ch => Z ch w'' | .outgrown => False
 | .halt (.panic v) w' => Z [{ v, recovered := false }] w'
 | _ => False
def guardVal (all : Array Oper) (f : Fr) (j : Nat) : Option Bool :=
 match (all[j]?).bind (·.dst) with
 | some t => (match f t with | .bool b => some b | _ => none)
 | none => none
def A7 (all : Array Oper) (f : Fr) (g : Option (Nat × Bool)) : Bool :=
 match g with
 | none => true
 | some (j, want) => guardVal all f j == some want
theorem yielded_toFr (all : Array Oper) (a : Act) (j : Nat) : yielded all a.tmps j = guardVal all (CC a) j := by
 unfold yielded guardVal CC
 cases h : (all[j]?).bind (·.dst) with
 | none => rfl
 | some t =>
  simp only [Option.bind_some, Array.getD_eq_getD_getElem?]
  cases ht : a.tmps[t]? with
  | none => rfl
  | some v => cases v <;> rfl
theorem wanted_toFr (all : Array Oper) (a : Act) (o : Oper) : Region.wanted o (yielded all a.tmps) = A7 all (CC a) o.guard := by
 unfold Region.wanted A7
 cases o.guard with
 | none => rfl
 | some p => obtain ⟨j, want⟩ := p; simp only [yielded_toFr]
def AW (P : Program) (all : Array Oper) (Z : Fr → DS → List PanicEntry → World → Prop) (K : Fr → DS → World → Prop) : List Oper → Fr → DS → World → Prop
 | [], f, ds, w => K f ds w
 | o :: rest, f, ds, w =>
  if A7 all f o.guard then By P o f ds w (fun v ds w => AW P all Z K rest (putF f o.dst v) ds w) (Z f ds)
  else AW P all Z K rest (putF f o.dst undef) ds w
structure Cf where
 n : Nat
 r : Option Nat
def rnd (r : Option Nat) : Fence := { Fence.wide with round := r }
abbrev Ce := Exit → Fr → DS → World → Prop
def B6 (k : Fr → DS → World → Prop) (Q : Ce) : Ce
 | .normal => k
 | e => Q e
def BZ (id : Nat) (Q : Ce) : Ce
 | .exit i => if i = id then Q .normal else Q (.exit i)
 | e => Q e
def B8 (Q : Ce) : Ce
 | .goto _ => fun _ _ _ => False
 | e => Q e
def liftQ (n : Nat) (Q : Ce) : Exit → Act → World → Prop := fun e a w => a.tmps.size = n ∧ Q e (CC a) a.defers w
def WC (P : Program) (n : Cf) : Code → Ce → Fr → DS → World → Prop
 | .skip, Q => Q .normal
 | .label _, Q => Q .normal
 | .ret, Q => Q .ret
 | .exit id, Q => Q (.exit id)
 | .goto _, _ => fun _ _ _ => False
 | .refuse _, _ => fun _ _ _ => False
 | .seq a b, Q => WC P n a (B6 (WC P n b Q) Q)
 | .block id c, Q => WC P n c (BZ id Q)
 | .scope c, Q => WC P n c (B8 Q)
 | .cond c x y, Q => fun f ds w => match ev f c with
  | .bool b => if b then WC P n x Q f ds w else WC P n y Q f ds w
  | _ => False
 | .region id ops draw, Q => fun f ds w =>
  match draw with
  | false => AW P ops (fun f ds ch w => Q (.panic ch) f ds w) (Q .normal) ops.toList f ds w
  | true => ∀ a, a.tmps.size = n.n → CC a = f → a.defers = ds → (Code.region id ops true).wpIn (rnd n.r) 0 P (liftQ n.n Q) a w
 | .loop c, Q => fun f ds w => ∃ (α : Type) (I : α → Fr → DS → World → Prop) (μ : α → Nat) (x : α), I x f ds w ∧
   ∀ x f ds w, I x f ds w → WC P n c (B6 (fun f' ds' w' => ∃ y, I y f' ds' w' ∧ μ y < μ x) Q) f ds w
 | .rangeFunc g ps as body, Q => fun f ds w => ∀ a, a.tmps.size = n.n → CC a = f → a.defers = ds → (Code.rangeFunc g ps as body).wpIn (rnd n.r) 0 P (liftQ n.n Q) a w
def isDefer : Op → Bool
 | .defer _ => true
 | _ => false
def opOk (n : Nat) (inRound : Bool) (o : Oper) : Bool := dOk n o.dst && (!inRound || !isDefer o.op)
def CT (n : Nat) (inRound : Bool) : Code → Bool
 | .seq a b => CT n inRound a && CT n inRound b
 | .block _ c => CT n inRound c
 | .scope c => !inRound && CT n inRound c
 | .cond _ x y => CT n inRound x && CT n inRound y
 | .region _ ops draw => draw || ops.toList.all (opOk n inRound)
 | .loop c => CT n inRound c
 | _ => true
theorem semAt_ok {r : Option Nat} {n : Nat} {o : Oper} (h : opOk n r.isSome o = true) (ρ : Operand → Value) : Oper.semAt r ρ o = execOp ρ o := by
 cases r with
 | none => rfl
 | some l =>
  refine Oper.semAt_eq _ ρ o fun c hc => ?_
  simp [opOk, hc, isDefer] at h
theorem uponIn_of {P : Program} {r : Option Nat} {n : Nat} {o : Oper} {a : Act} {w : World} {K : Fr → DS → World → Prop} {Q : Ce} {K' : Act → World → Prop} (hn : a.tmps.size = n) (hok : opOk n r.isSome o = true)
  (next : ∀ v ds w', K (putF (CC a) o.dst v) ds w' → K' ({ a with defers := ds }.put o.dst v) w')
  (h : By P o (CC a) a.defers w (fun v ds w => K (putF (CC a) o.dst v) ds w) (fun ch w => Q (.panic ch) (CC a) a.defers w)) : o.wpIn (rnd r) 0 P a w K' (liftQ n Q) := by
 refine ⟨fun _ _ => trivial, ?_⟩
 have hs : (rnd r).round = r := rfl
 rw [hs, semAt_ok hok, ev_toFr]
 unfold By at h
 revert h
 generalize (execOp (ev (CC a)) o).run P w = res
 intro h
 have hdep : (rnd r).depth.isSome = true → 1 ≤ 0 := fun hh => by simp [rnd, Fence.wide] at hh
 cases res with
 | halt x w' => cases x <;> first | exact h.elim | exact ⟨hn, h⟩
 | ok m w' =>
  cases m with
  | value v => exact next v a.defers w' h
  | skip => exact next undef a.defers w' h
  | defer d => exact next undef (d :: a.defers) w' h
  | enter g args =>
   refine ⟨hdep, ?_⟩
   have hc : CallsIn Fence.wide (0 - 1) P g args w' _ := callsIn_wide.2 h
   refine CallsIn.mono (F := rnd r) hc fun e w'' he => ?_
   cases e with
   | returned v => exact next v a.defers w'' he
   | panicked ch => exact ⟨hn, he⟩
   | outgrown => exact he.elim
  | round l g tmps assign body =>
   refine ⟨hdep, ?_⟩
   have hc : RoundIn (rnd r) (0 - 1) P l g tmps assign body w' _ := h
   refine RoundIn.mono hc fun e w'' he => ?_
   cases e with
   | returned v => exact next v a.defers w'' he
   | panicked ch => exact ⟨hn, he⟩
   | outgrown => exact he.elim
  | _ => exact h.elim
theorem next_of {n : Nat} {o : Oper} {a : Act} {K : Fr → DS → World → Prop} {K' : Act → World → Prop} (hn : a.tmps.size = n) (hok : dOk n o.dst = true)
  (hK : ∀ a' w', a'.tmps.size = n → K (CC a') a'.defers w' → K' a' w') : ∀ v ds w', K (putF (CC a) o.dst v) ds w' → K' ({ a with defers := ds }.put o.dst v) w' := by
 intro v ds w' h'
 refine hK _ w' (by rw [size_put]; exact hn) ?_
 rw [defers_put]
 have e : CC ({ a with defers := ds }.put o.dst v) = putF (CC a) o.dst v := toFr_putF (a := { a with defers := ds }) (d := o.dst) v (by rw [hn]; exact hok)
 rw [e]
 exact h'
theorem wpListIn_of_WOps {P : Program} {all : Array Oper} {n : Nat} {r : Option Nat} {Q : Ce} : ∀ (l : List Oper) (a : Act) (w : World), a.tmps.size = n → l.all (opOk n r.isSome) = true →
  AW P all (fun f ds ch w => Q (.panic ch) f ds w) (Q .normal) l (CC a) a.defers w → wpListIn (rnd r) 0 P all (liftQ n Q) l a w
 | [], a, w, hn, _, h => ⟨hn, h⟩
 | o :: rest, a, w, hn, hok, h => by
  simp only [List.all_cons, Bool.and_eq_true] at hok
  have hd : dOk n o.dst = true := by have := hok.1; simp only [opOk, Bool.and_eq_true] at this; exact this.1
  have next := next_of (n := n) (o := o) (a := a) (K := AW P all (fun f ds ch w => Q (.panic ch) f ds w) (Q .normal) rest) (K' := wpListIn (rnd r) 0 P all (liftQ n Q) rest) hn hd
   (fun a' w' h1 h2 => wpListIn_of_WOps rest a' w' h1 hok.2 h2)
  unfold wpListIn
  unfold AW at h
  rw [wanted_toFr]
  by_cases hw : A7 all (CC a) o.guard = true
  ·rw [if_pos hw] at h
   rw [if_pos hw]
   exact uponIn_of hn hok.1 next h
  ·rw [if_neg hw] at h
   rw [if_neg hw]
   exact ⟨fun _ _ => trivial, next undef a.defers w h⟩
theorem lift_mono {n : Nat} {Q Q' : Ce} (h : ∀ e f ds w, Q e f ds w → Q' e f ds w) : ∀ e a w, liftQ n Q e a w → liftQ n Q' e a w :=
 fun e a w ⟨h1, h2⟩ => ⟨h1, h e _ _ w h2⟩
theorem CA {P : Program} {n : Cf} : ∀ (c : Code) (Q : Ce) (a : Act) (w : World), a.tmps.size = n.n → CT n.n n.r.isSome c = true →
  WC P n c Q (CC a) a.defers w → c.wpIn (rnd n.r) 0 P (liftQ n.n Q) a w
 | .skip, Q, a, w, hn, _, h => wpIn_skip ⟨hn, h⟩
 | .label _, Q, a, w, hn, _, h => wpIn_label ⟨hn, h⟩
 | .ret, Q, a, w, hn, _, h => wpIn_ret ⟨hn, h⟩
 | .exit _, Q, a, w, hn, _, h => wpIn_exit ⟨hn, h⟩
 | .goto _, _, _, _, _, _, h => h.elim
 | .refuse _, _, _, _, _, _, h => h.elim
 | .seq x y, Q, a, w, hn, hok, h => by
  simp only [CT, Bool.and_eq_true] at hok
  refine wpIn_seq (wpIn_mono (CA x _ a w hn hok.1 h) ?_)
  intro e a w hq
  obtain ⟨h1, h2⟩ := hq
  cases e with
  | normal => exact CA y Q a w h1 hok.2 h2
  | _ => exact ⟨h1, h2⟩
 | .block id c, Q, a, w, hn, hok, h => by
  refine wpIn_block (wpIn_mono (CA c _ a w hn hok h) ?_)
  intro e a w hq
  obtain ⟨h1, h2⟩ := hq
  cases e with
  | exit i =>
   simp only [Exit.inBlock]
   simp only [BZ] at h2
   by_cases hi : i = id
   ·rw [if_pos hi] at h2 ⊢; exact ⟨h1, h2⟩
   ·rw [if_neg hi] at h2 ⊢; exact ⟨h1, h2⟩
  | _ => exact ⟨h1, h2⟩
 | .scope c, Q, a, w, hn, hok, h => by
  simp only [CT, Bool.and_eq_true, Bool.not_eq_true'] at hok
  obtain ⟨nn, r⟩ := n
  cases r with
  | some l => simp at hok
  | none =>
   refine wpIn_wide.2 (wp_scope_straight (wp_mono (wpIn_wide.1 (CA (n := ⟨nn, none⟩) c _ a w hn hok.2 h)) ?_))
   intro e a w hq
   obtain ⟨h1, h2⟩ := hq
   cases e with
   | goto l => exact h2.elim
   | _ => exact ⟨h1, h2⟩
 | .cond c x y, Q, a, w, hn, hok, h => by
  simp only [CT, Bool.and_eq_true] at hok
  simp only [WC] at h
  have he := ev_toFr a
  cases hc : ev (CC a) c <;> simp only [hc] at h
  case bool b =>
   refine wpIn_cond (t := b) (by rw [he]; exact hc) ?_
   cases b with
   | true => exact CA x Q a w hn hok.1 h
   | false => exact CA y Q a w hn hok.2 h
  all_goals exact h.elim
 | .region id ops draw, Q, a, w, hn, hok, h => by
  cases draw with
  | false =>
   simp only [CT, Bool.false_or] at hok
   exact wpIn_region_list (wpListIn_of_WOps ops.toList a w hn hok h)
  | true => exact h a hn rfl rfl
 | .loop c, Q, a, w, hn, hok, h => by
  obtain ⟨α, I, μ, x, h0, hr⟩ := h
  refine wpIn_loop_ghost (fun (m : Nat) a w => ∃ x, μ x = m ∧ a.tmps.size = n.n ∧ I x (CC a) a.defers w) (μ x) ⟨x, rfl, hn, h0⟩ ?_
  rintro m a w ⟨x, rfl, h1, h2⟩
  refine wpIn_mono (CA c _ a w h1 hok (hr _ _ _ _ h2)) ?_
  intro e a' w' hq
  obtain ⟨h3, h4⟩ := hq
  cases e with
  | normal => obtain ⟨y, h5, h6⟩ := h4; exact ⟨μ y, h6, y, rfl, h3, h5⟩
  | _ => exact ⟨h3, h4⟩
 | .rangeFunc _ _ _ _, Q, a, w, hn, _, h => h a hn rfl rfl
def tupleOf : List Value → Value
 | [v] => v
 | l => .tuple l.toArray
def Cz (P : Program) : List ResultVar → Fr → World → (List Value → Prop) → Prop
 | [], _, _, k => k []
 | .tmp t :: r, f, w, k => Cz P r f w fun l => k (f t :: l)
 | .cell a T :: r, f, w, k => ∃ ad v, f a = .pointer (some ad) ∧ (loadVar T ad).run P w = .ok v w ∧ Cz P r f w fun l => k (v :: l)
theorem DV {P : Program} {w : World} {tmps : Array Value} {g : ResultVar → Sem Value} (g1 : ∀ t, g (.tmp t) = pure (tmps.getD t undef))
  (g2 : ∀ a t, g (.cell a t) = (do loadVar t (← asAddr (tmps.getD a undef)))) : ∀ (rs : List ResultVar) (k : List Value → Prop), Cz P rs (fun i => tmps.getD i undef) w k →
  ∃ l, k l ∧ (rs.mapM g).run P w = .ok l w
 | [], k, h => ⟨[], h, by simp⟩
 | .tmp t :: r, k, h => by
  obtain ⟨l, h1, h2⟩ := DV g1 g2 r _ h
  refine ⟨_, h1, ?_⟩
  simp only [List.mapM_cons, g1, Sem.run_bind, Sem.run_pure, Result.andThen_ok, h2]
 | .cell a T :: r, k, h => by
  obtain ⟨ad, v, e1, e2, h'⟩ := h
  obtain ⟨l, h1, h2⟩ := DV g1 g2 r _ h'
  refine ⟨_, h1, ?_⟩
  have e1' : tmps.getD a undef = .pointer (some ad) := e1
  have ea : asAddr (.pointer (some ad)) = pure ad := rfl
  simp only [List.mapM_cons, g2, e1', ea, Sem.run_bind, Sem.run_pure, Result.andThen_ok, e2, h2]
theorem run_results {P : Program} {fn : Func} {w : World} {tmps : Array Value} {k : List Value → Prop} (h : Cz P fn.results.toList (fun i => tmps.getD i undef) w k) :
  ∃ l, k l ∧ (results fn tmps).run P w = .ok (tupleOf l) w := by
 unfold results
 rw [Array.mapM_eq_mapM_toList]
 have hm : ∀ (x : Sem (List Value)), (Functor.map List.toArray x : Sem (Array Value)) = x >>= fun l => pure l.toArray := fun _ => rfl
 rw [hm]
 simp only [Sem.run_bind]
 obtain ⟨l, h1, h2⟩ := DV (g := fun | .tmp t => pure (tmps.getD t undef) | .cell a t => do loadVar t (← asAddr (tmps.getD a undef))) (fun _ => rfl) (fun _ _ => rfl) _ _ h
 refine ⟨l, h1, ?_⟩
 refine (congrArg (fun r => Result.andThen (Result.andThen r _) _) h2).trans ?_
 simp only [Result.andThen_ok, Sem.run_pure]
 match l with
 | [] => rfl
 | [v] => rfl
 | _ :: _ :: _ => rfl
def Cw (P : Program) (fn : Func) (R : Value → World → Prop) (Z : List PanicEntry → World → Prop) : Ce
 | .normal => fun f ds w => ds = [] ∧ Cz P fn.results.toList f w fun l => R (tupleOf l) w
 | .ret => fun f ds w => ds = [] ∧ Cz P fn.results.toList f w fun l => R (tupleOf l) w
 | .panic ch => fun _ ds w => ds = [] ∧ Z ch w
 | _ => fun _ _ _ => False
def FnP (P : Program) (g : FuncId) (args : List Value) (w : World) (R : Value → World → Prop) (Z : List PanicEntry → World → Prop) : Prop :=
 Calls P g args.toArray w fun e w' => match e with | .returned v => R v w' | .panicked ch => Z ch w' | .outgrown => False
def Fn (P : Program) (g : FuncId) (args : List Value) (w : World) (R : Value → World → Prop) : Prop := FnP P g args w R fun _ _ => False
theorem FnP.mono {P : Program} {g : FuncId} {args : List Value} {w : World} {R R' : Value → World → Prop} {Z Z' : List PanicEntry → World → Prop}
  (h : FnP P g args w R Z) (hr : ∀ v w', R v w' → R' v w') (hz : ∀ ch w', Z ch w' → Z' ch w') : FnP P g args w R' Z' :=
 Calls.mono h fun e w' he => by cases e with
  | returned v => exact hr v w' he
  | panicked ch => exact hz ch w' he
  | outgrown => exact he
theorem Fn.mono {P : Program} {g : FuncId} {args : List Value} {w : World} {R R' : Value → World → Prop}
  (h : Fn P g args w R) (hr : ∀ v w', R v w' → R' v w') : Fn P g args w R' := FnP.mono h hr fun _ _ h => h
theorem argF_get : ∀ (l : List Value) (i : Nat), argF l i = l.getD i undef
 | [], i => by simp [argF]
 | _ :: _, 0 => rfl
 | _ :: l, i + 1 => by simp [argF, argF_get l i]
theorem toFr_args (l : List Value) (k : Nat) : CC { tmps := l.toArray ++ Array.replicate k undef, defers := [] } = argF l := by
 funext i
 rw [argF_get]
 simp only [CC, Array.getD_eq_getD_getElem?, List.getD_eq_getElem?_getD, Array.getElem?_append]
 by_cases h : i < l.length
 ·simp [h]
 ·have e : l[i]? = none := List.getElem?_eq_none (by omega)
  rw [e]
  simp only [List.size_toArray, h, if_false]
  by_cases h2 : i - l.length < k
  ·simp [h2]
  ·rw [Array.getElem?_eq_none (by simp; omega)]
def lv (P : Program) (fn : Func) (R : Value → World → Prop) (Z : List PanicEntry → World → Prop) (f : Fr) : DS → FrameMode → World → Prop
 | [], .returning, w => Cz P fn.results.toList f w fun l => R (tupleOf l) w
 | [], .panicking ch, w => Z ch w
 | [], .run, _ => False
 | d :: ds, u, w => u ≠ .run ∧
   ((∃ r w', d.target = .collected r ∧ (Instr.takeDeferred r).run P w = .ok [] w' ∧ lv P fn R Z f ds u w') ∨
    (∃ fv cap g args, d.target = .fn fv cap ∧ (invoke d.target d.args).run P w = .ok (.enter g args) w ∧
    CallsDIn Fence.wide 0 P g args u w fun
     | .returned _, u', w' => lv P fn R Z f ds (settle u') w'
     | .panicked ch, u', w' => lv P fn R Z f ds (raised u' ch) w'
     | .outgrown, _, _ => False))
def DY (P : Program) (fn : Func) (R : Value → World → Prop) (Z : List PanicEntry → World → Prop) : Ce
 | .normal => fun f ds w => lv P fn R Z f ds .returning w
 | .ret => fun f ds w => lv P fn R Z f ds .returning w
 | .panic ch => fun f ds w => lv P fn R Z f ds (.panicking ch) w
 | _ => fun _ _ _ => False
def endR (R : Value → World → Prop) (Z : List PanicEntry → World → Prop) : Ending → World → Prop
 | .returned v, w => R v w
 | .panicked ch, w => Z ch w
 | .outgrown, _ => False
theorem CG {P : Program} {fn : Func} {R : Value → World → Prop} {Z : List PanicEntry → World → Prop} {tmps : Array Value} : ∀ (ds : DS) (u : FrameMode) (w : World), lv P fn R Z (fun i => tmps.getD i undef) ds u w →
  LeavesInM Fence.wide 0 P fn tmps (endR R Z) ds u w
 | [], .returning, w, h => by
  obtain ⟨l, h1, h2⟩ := run_results h
  exact ⟨_, h2, h1⟩
 | [], .panicking ch, w, h => h
 | [], .run, w, h => h
 | d :: ds, u, w, h => by
  obtain ⟨hu, h⟩ := h
  refine ⟨hu, ?_⟩
  rcases h with ⟨r, w', h1, h2, h3⟩ | ⟨fv, cap, g, args, h1, h2, h3⟩
  ·exact .inl ⟨r, w', h1, h2, CG ds u w' h3⟩
  ·refine .inr ⟨fun hh => by simp [Fence.wide] at hh, fv, cap, g, args, h1, h2, fun _ _ => trivial, h3.1, ?_⟩
   intro c cs hc hr
   obtain ⟨e, u', w', fr, hR, h4⟩ := h3.2 c cs hc hr
   refine ⟨e, u', w', fr, ?_, h4⟩
   cases e with
   | returned v => exact CG ds _ _ hR
   | panicked ch => exact CG ds _ _ hR
   | outgrown => exact hR.elim
theorem fnD_of_wc {P : Program} {g : FuncId} {fn : Func} {c : Code} {args : List Value} {w : World} {R : Value → World → Prop} {Z : List PanicEntry → World → Prop}
  (hf : P.funcs[g]? = some fn) (hb : fn.body = some c) {n : Nat} (hn : fn.ntmps = n) (hl : args.length ≤ n) (hok : CT n false c = true)
  (h : WC P ⟨n, none⟩ c (DY P fn R Z) (argF args) [] w) : FnP P g args w R Z := by
 have hs : (args.toArray ++ Array.replicate (fn.ntmps - args.toArray.size) undef).size = n := by simp [hn]; omega
 have h' := CA (P := P) (n := ⟨n, none⟩) c (DY P fn R Z) { tmps := args.toArray ++ Array.replicate (fn.ntmps - args.toArray.size) undef, defers := [] } w hs hok (by rw [toFr_args]; exact h)
 have hc : CallsIn Fence.wide 0 P g args.toArray w (endR R Z) := by
  refine callsIn_of_wp_marks hf hb trivial ?_
  refine wpIn_mono h' ?_
  rintro e a w' ⟨_, hq⟩
  cases e with
  | normal => exact CG _ _ _ hq
  | ret => exact CG _ _ _ hq
  | panic ch => exact CG _ _ _ hq
  | exit _ => exact hq.elim
  | goto _ => exact hq.elim
  | outgrown => exact hq.elim
 refine Calls.mono (callsIn_wide.1 hc) fun e w' he => ?_
 cases e <;> exact he
theorem Ar {P : Program} {g : FuncId} {fn : Func} {c : Code} {args : List Value} {w : World} {R : Value → World → Prop} {Z : List PanicEntry → World → Prop}
  (hf : P.funcs[g]? = some fn) (hb : fn.body = some c) {n : Nat} (hn : fn.ntmps = n) (hl : args.length ≤ n) (hok : CT n false c = true)
  (h : WC P ⟨n, none⟩ c (Cw P fn R Z) (argF args) [] w) : FnP P g args w R Z := by
 have hs : (args.toArray ++ Array.replicate (fn.ntmps - args.toArray.size) undef).size = n := by simp [hn]; omega
 have h' := CA (P := P) (n := ⟨n, none⟩) c (Cw P fn R Z) { tmps := args.toArray ++ Array.replicate (fn.ntmps - args.toArray.size) undef, defers := [] } w hs hok (by rw [toFr_args]; exact h)
 have hc : CallsIn Fence.wide 0 P g args.toArray w (endR R Z) := by
  refine callsIn_of_wp_marks hf hb trivial ?_
  refine wpIn_mono h' ?_
  rintro e a w' ⟨_, hq⟩
  cases e with
  | normal => obtain ⟨hd, hr⟩ := hq; simp only [bodyPostM, hd]; exact CG [] .returning w' hr
  | ret => obtain ⟨hd, hr⟩ := hq; simp only [bodyPostM, hd]; exact CG [] .returning w' hr
  | panic ch => obtain ⟨hd, hr⟩ := hq; simp only [bodyPostM, hd]; exact CG (R := R) (fn := fn) (tmps := a.tmps) [] (.panicking ch) w' hr
  | exit _ => exact hq.elim
  | goto _ => exact hq.elim
  | outgrown => exact hq.elim
 refine Calls.mono (callsIn_wide.1 hc) fun e w' he => ?_
 cases e <;> exact he
attribute [irreducible] WC AW B6 BZ B8 Cw DY By
end Go.Proofs.YtfcgdbmoncnibaaGreatDoor
namespace Go.Proofs.YtfcgdbmoncnibaaGreatDoor
open Go.RowKit
def Unm (w : World) (b : Nat) : Prop := ∀ (c : Array Value) (t : TypeId) (fr : Nat × Nat), w.heap[b]? = some (.cells c t fr) → fr = (0, 0) ∨ ∀ (i : Nat) (v : Value), c[i]? = some v → ∃ n, v = .int .u8 n
class MK (mk : outParam Prop) : Prop where
 triv : True
structure Keep {mk : Prop} [MK mk] (X : List Nat) (w w' : World) : Prop where
 os : w'.os = w.os
 tape : w'.tape = w.tape
 output : w'.output = w.output
 size : w.heap.size ≤ w'.heap.size
 block : ∀ b, b < w.heap.size → b ∉ X → w'.heap[b]? = w.heap[b]?
 mark : mk → ∀ b, (b < w.heap.size → Unm w b) → Unm w' b
variable {mk : Prop} [MK mk]
abbrev Ext (w w' : World) : Prop := Keep [] w w'
theorem Unm.out {w : World} {b : Nat} (h : w.heap.size ≤ b) : Unm w b := fun c t fr e => by rw [Array.getElem?_eq_none h] at e; cases e
theorem Unm.eq {w w' : World} {b : Nat} (h : Unm w b) (e : w'.heap[b]? = w.heap[b]?) : Unm w' b := fun c t fr e' => h c t fr (e ▸ e')
theorem Unm.cells {w : World} {b : Nat} {c : Array Value} {t : TypeId} (h : w.heap[b]? = some (.cells c t (0, 0))) : Unm w b := fun c' t' fr e => by rw [h] at e; cases e; exact .inl rfl
theorem mark_refl (w : World) : ∀ b, (b < w.heap.size → Unm w b) → Unm w b := fun b h => by
 by_cases hb : b < w.heap.size
 ·exact h hb
 ·exact Unm.out (by omega)
theorem mark_heap {w w' : World} (e : w'.heap = w.heap) : ∀ b, (b < w.heap.size → Unm w b) → Unm w' b := fun b h => (mark_refl w b h).eq (by rw [e])
theorem mark_new {w w' : World} (hs : w'.heap.size ≤ w.heap.size + 1) (ho : ∀ k, k < w.heap.size → w'.heap[k]? = w.heap[k]?) (hn : Unm w' w.heap.size) : ∀ b, (b < w.heap.size → Unm w b) → Unm w' b := fun b h => by
 by_cases hb : b < w.heap.size
 ·exact (h hb).eq (ho b hb)
 ·by_cases he : b = w.heap.size
  ·rw [he]; exact hn
  ·exact Unm.out (by omega)
theorem mark_put {w w' : World} {g : Nat} (hs : w'.heap.size = w.heap.size) (ho : ∀ k, k ≠ g → w'.heap[k]? = w.heap[k]?) (hg : Unm w' g) : ∀ b, (b < w.heap.size → Unm w b) → Unm w' b := fun b h => by
 by_cases he : b = g
 ·rw [he]; exact hg
 ·exact (mark_refl w b h).eq (ho b he)
theorem mark_obj {w : World} {g : Nat} {o : Obj} (ho : ∀ c t fr, o ≠ .cells c t fr) : ∀ b, (b < w.heap.size → Unm w b) → Unm { w with heap := w.heap.setIfInBounds g o } b :=
 mark_put (g := g) (by simp) (fun k hk => by simp [Ne.symm hk]) fun c t fr e => by
  by_cases h : g < w.heap.size
  ·simp [h] at e
   exact absurd e (ho c t fr)
  ·rw [Array.getElem?_eq_none (by simp; omega)] at e; cases e
theorem Keep.refl (X : List Nat) (w : World) : Keep X w w := ⟨rfl, rfl, rfl, Nat.le_refl _, fun _ _ _ => rfl, fun _ => mark_refl w⟩
theorem Ext.refl (w : World) : Ext w w := Keep.refl [] w
theorem Keep.trans {X Y : List Nat} {a b c : World} (h : Keep X a b) (k : Keep Y b c) (hY : ∀ x ∈ Y, x < a.heap.size → x ∈ X) : Keep X a c :=
 ⟨k.os.trans h.os, k.tape.trans h.tape, k.output.trans h.output, Nat.le_trans h.size k.size, fun i hi hx =>
  (k.block i (Nat.lt_of_lt_of_le hi h.size) fun hy => hx (hY i hy hi)).trans (h.block i hi hx),
  fun m b hb => k.mark m b fun _ => h.mark m b hb⟩
theorem Keep.ext {X : List Nat} {a b c : World} (h : Keep X a b) (k : Ext b c) : Keep X a c := h.trans k (fun _ hx => by cases hx)
theorem Keep.mono {X Y : List Nat} {a b : World} (h : Keep X a b) (hxy : ∀ x ∈ X, x ∈ Y) : Keep Y a b :=
 ⟨h.os, h.tape, h.output, h.size, fun i hi hx => h.block i hi fun hm => hx (hxy i hm), h.mark⟩
theorem Ext.any {X : List Nat} {a b : World} (h : Ext a b) : Keep X a b := h.mono fun _ hx => by cases hx
theorem Ext.keep {Y : List Nat} {a b c : World} (h : Ext a b) (k : Keep Y b c) (hY : ∀ x ∈ Y, a.heap.size ≤ x) : Ext a c :=
 h.trans k fun x hx hlt => absurd (hY x hx) (by omega)
theorem Ext.trans {a b c : World} (h : Ext a b) (k : Ext b c) : Ext a c := Keep.ext h k
theorem Keep.of_grown {w w' : World} {row : Option Nat} (h : w.grownBy w' row) (hm : mk → ∀ b, (b < w.heap.size → Unm w b) → Unm w' b) : Keep row.toList w w' :=
 ⟨h.os, h.tape, h.output, h.size, fun k hk hx => h.block k hk fun e => hx (by rw [← e]; simp), hm⟩
theorem Keep.weak {m : Prop} [i : MK m] [j : MK True] {X : List Nat} {w w' : World} (h : @Keep True j X w w') : @Keep m i X w w' := @Keep.mk m i X w w' (@Keep.os True j X w w' h) (@Keep.tape True j X w w' h) (@Keep.output True j X w w' h) (@Keep.size True j X w w' h) (@Keep.block True j X w w' h) fun _ => @Keep.mark True j X w w' h trivial
theorem Keep.fresh [j : MK True] {X : List Nat} {w w' : World} (h : @Keep True j X w w') {b : Nat} (hb : w.heap.size ≤ b) : Unm w' b := @Keep.mark True j X w w' h trivial b fun h => absurd h (by omega)
theorem Keep.cell {X : List Nat} {w w' : World} (h : Keep X w w') {b o : Nat} {v : Value} (hc : w.cell? ⟨b, o, none⟩ = some v) (hb : b ∉ X) : w'.cell? ⟨b, o, none⟩ = some v := by
 have hlt := World.block_lt_of_cell? w _ hc
 exact (World.cell?_of_block (w := w) (h.block b hlt hb)).trans hc
def Blk (w : World) (b : Nat) (T : TypeId) (L : List Value) : Prop := w.heap[b]? = some (.cells L.toArray T (0, 0))
theorem Blk.lt {w : World} {b : Nat} {T : TypeId} {L : List Value} (h : Blk w b T L) : b < w.heap.size := (Array.getElem?_eq_some_iff.1 h).1
theorem Blk.keep {X : List Nat} {w w' : World} {b : Nat} {T : TypeId} {L : List Value} (h : Blk w b T L) (k : Keep X w w') (hb : b ∉ X) : Blk w' b T L := (k.block b h.lt hb).trans h
theorem Blk.cell {w : World} {b : Nat} {T : TypeId} {L : List Value} (h : Blk w b T L) {o : Nat} {v : Value} (ho : L[o]? = some v) : w.cell? ⟨b, o, none⟩ = some v := by
 unfold Blk at h
 simp [World.cell?, h, ho]
theorem Blk.frozen {w : World} {b : Nat} {T : TypeId} {L : List Value} (h : Blk w b T L) (o : Nat) : w.frozen? ⟨b, o, none⟩ = false := by
 unfold Blk at h
 simp [World.frozen?, h]
structure New (w w' : World) (T : TypeId) (L : List Value) : Prop where
 keep : Ext w w'
 size : w'.heap.size = w.heap.size + 1
 blk : Blk w' w.heap.size T L
theorem New.mk_alloc (w : World) (L : List Value) (T : TypeId) : New w (w.alloc (.cells L.toArray T)) T L :=
 ⟨⟨rfl, rfl, rfl, by simp, fun k hk _ => heap_alloc_old w _ hk, fun _ => mark_new (by simp) (fun k hk => heap_alloc_old w _ hk) (Unm.cells (heap_alloc_new w _))⟩, by simp, heap_alloc_new w _⟩
structure Put (w w' : World) (b : Nat) (T : TypeId) (L : List Value) : Prop where
 keep : Keep [b] w w'
 size : w'.heap.size = w.heap.size
 blk : Blk w' b T L
theorem Put.mk_setCell {w : World} {b : Nat} {T : TypeId} {L : List Value} (h : Blk w b T L) (o : Nat) (v : Value) : Put w (w.setCell ⟨b, o, none⟩ v) b T (L.set o v) := by
 unfold Blk at h
 have hb : Blk (w.setCell ⟨b, o, none⟩ v) b T (L.set o v) := by
  simp only [Blk, World.setCell, Array.getElem?_modify, h]
  simp
 refine ⟨⟨rfl, rfl, rfl, by simp [World.setCell], fun k _ hk => ?_, fun _ => mark_put (g := b) (by simp [World.setCell]) (fun k hk => ?_) (Unm.cells hb)⟩, by simp [World.setCell], hb⟩
 ·exact Below.heap_setCell w ⟨b, o, none⟩ v k (by simpa using hk)
 ·exact Below.heap_setCell w ⟨b, o, none⟩ v k (by simpa using hk)
def Cells (w : World) (b off : Nat) (cs : List Value) : Prop := ∀ (i : Nat) (u : Value), cs[i]? = some u → w.cell? ⟨b, off + i, none⟩ = some u
theorem Cells.keep {X : List Nat} {w w' : World} {b off : Nat} {cs : List Value} (h : Cells w b off cs) (k : Keep X w w') (hb : b ∉ X) : Cells w' b off cs :=
 fun i u hu => k.cell (h i u hu) hb
theorem Blk.cells {w : World} {b : Nat} {T : TypeId} {L : List Value} (h : Blk w b T L) : Cells w b 0 L := fun i u hu => by rw [Nat.zero_add]; exact h.cell hu
theorem Cells.part {w : World} {b off : Nat} {cs : List Value} (h : Cells w b off cs) (k n : Nat) : Cells w b (off + k) ((cs.drop k).take n) := by
 intro i u hu
 rw [List.getElem?_take] at hu
 split at hu
 ·rw [List.getElem?_drop] at hu
  rw [Nat.add_assoc]
  exact h (k + i) u hu
 ·cases hu
def adv (cap l size : Nat) (a : Option Addr) : Option Addr := if cap = l then a else a.map (·.add (l * size))
def Sl (ok : Nat → Prop) (w : World) (v : Value) (n : Nat) (cs : List Value) : Prop :=
 ∃ a cap, v = .slice a n cap ∧ n ≤ cap ∧ cap ≤ 9223372036854775807 ∧ (a = none → cap = 0) ∧
  (n = 0 ∨ ∃ b off, a = some ⟨b, off, none⟩ ∧ ok b ∧ Cells w b off cs)
theorem Sl.keep {ok : Nat → Prop} {X : List Nat} {w w' : World} {v : Value} {n : Nat} {cs : List Value} (h : Sl ok w v n cs) (k : Keep X w w') (hX : ∀ b, ok b → b ∉ X) : Sl ok w' v n cs := by
 obtain ⟨a, cap, hv, h1, h2, h3, h4⟩ := h
 refine ⟨a, cap, hv, h1, h2, h3, h4.imp id ?_⟩
 rintro ⟨b, off, ha, hb, hc⟩
 exact ⟨b, off, ha, hb, hc.keep k (hX b hb)⟩
theorem Sl.ext {ok : Nat → Prop} {w w' : World} {v : Value} {n : Nat} {cs : List Value} (h : Sl ok w v n cs) (k : Ext w w') : Sl ok w' v n cs := h.keep k fun _ _ => by simp
theorem Sl.mono {ok ok' : Nat → Prop} {w : World} {v : Value} {n : Nat} {cs : List Value} (h : Sl ok w v n cs) (hk : ∀ b, ok b → ok' b) : Sl ok' w v n cs := by
 obtain ⟨a, cap, hv, h1, h2, h3, h4⟩ := h
 refine ⟨a, cap, hv, h1, h2, h3, h4.imp id ?_⟩
 rintro ⟨b, off, ha, hb, hc⟩
 exact ⟨b, off, ha, hk b hb, hc⟩
theorem New.own {w w' : World} {e size n B : Nat} {out : List Value} (h : New w w' e out) (hl : out.length = n * size) (hn : n ≤ maxLen) (hB : B ≤ w.heap.size) : w'.ownsRow B e size (.slice (some ⟨w.heap.size, 0, none⟩) n n) n out :=
 ⟨hl, .inr ⟨w.heap.size, n, out.toArray, rfl, hB, h.blk, Nat.le_refl _, hn, by simpa using hl, by rw [← hl]; simp⟩⟩
theorem ownsRow_mono {w : World} {B B' e size n : Nat} {v : Value} {xs : List Value} (h : w.ownsRow B e size v n xs) (hB : B' ≤ B) : w.ownsRow B' e size v n xs := by
 refine ⟨h.1, h.2.imp id ?_⟩
 rintro ⟨g, cap, cur, hv, hg, r⟩
 exact ⟨g, cap, cur, hv, Nat.le_trans hB hg, r⟩
theorem Ax {X : List Nat} {w w' : World} {B e size n : Nat} {v : Value} {xs : List Value} (h : w.ownsRow B e size v n xs) (k : Keep X w w') (hX : ∀ g, v.ownBlock = some g → g ∉ X) : w'.ownsRow B e size v n xs := by
 refine ⟨h.1, h.2.imp id ?_⟩
 rintro ⟨g, cap, cur, rfl, hg, hh, r⟩
 exact ⟨g, cap, cur, rfl, hg, (k.block g (Array.getElem?_eq_some_iff.1 hh).1 (hX g rfl)).trans hh, r⟩
theorem BX {w w' : World} {B e size n : Nat} {v : Value} {xs : List Value} (h : w.ownsRow B e size v n xs) (k : Ext w w') : w'.ownsRow B e size v n xs := Ax h k fun _ _ => by simp
theorem A3 {w : World} {B e size n : Nat} {v : Value} {xs : List Value} {ok : Nat → Prop} (h : w.ownsRow B e size v n xs) (hok : ∀ g, v.ownBlock = some g → ok g) : Sl ok w v n xs := by
 obtain ⟨hl, hv⟩ := h
 rcases hv with ⟨rfl, rfl⟩ | ⟨g, cap, cur, rfl, hb, hg, hnc, hcm, hcs, ht⟩
 ·exact ⟨none, 0, rfl, by omega, by omega, fun _ => rfl, .inl rfl⟩
 ·refine ⟨_, cap, rfl, hnc, by unfold maxLen at hcm; omega, (fun h => by cases h), .inr ⟨g, 0, rfl, hok g rfl, ?_⟩⟩
  intro i u hu
  have hlt : i < n * size := by rw [← hl]; exact (List.getElem?_eq_some_iff.1 hu).1
  rw [← ht, List.getElem?_take, if_pos hlt] at hu
  simp only [World.cell?, hg, Nat.zero_add]
  simpa using hu
def A0 : Nat → Prop := fun _ => True
def enc8 (c : UInt8) : Value := .int .u8 (c.toNat : Int)
def Cv (l : List UInt8) : List Value := l.map enc8
theorem cells8_append (l m : List UInt8) : Cv (l ++ m) = Cv l ++ Cv m := by simp [Cv]
theorem cells8_get {l : List UInt8} {i : Nat} (h : i < l.length) : (Cv l)[i]? = some (enc8 (l.getD i 0)) := by
 simp [Cv, h]
end Go.Proofs.YtfcgdbmoncnibaaGreatDoor
namespace Go.Proofs.YtfcgdbmoncnibaaGreatDoor
open Go.RowKit
variable {mk : Prop} [MK mk]
attribute [local semireducible] WC AW B6 BZ B8 Cw DY By
def aggD : TypeDesc → Bool
 | .struct _ => true
 | .array _ _ => true
 | _ => false
class OneT (P : Program) (T : TypeId) : Prop where
 out : ∃ d, P.underlying T = some d ∧ aggD d = false
class AggT (P : Program) (T : TypeId) (size : outParam Nat) : Prop where
 out : (∃ d, P.underlying T = some d ∧ aggD d = true) ∧ ∃ i, P.info? T = some i ∧ i.size = size
class CR (P : Program) (T : TypeId) (size : outParam Nat) : Prop where
 out : ∃ i, P.info? T = some i ∧ i.size = size
class Co (P : Program) (T : TypeId) (L : outParam (List Value)) : Prop where
 out : ∃ i z, P.info? T = some i ∧ i.zero = some z ∧ z.cells = L.toArray
class SlT (P : Program) (T : TypeId) (e size bytes : outParam Nat) (z : outParam Value) : Prop where
 und : P.underlying T = some (.slice e)
 out : ∃ i, P.info? e = some i ∧ i.zero = some z ∧ i.size = size ∧ i.bytes = bytes
class ArrT (P : Program) (T : TypeId) (len e size : outParam Nat) : Prop where
 und : P.underlying T = some (.array len e)
 out : ∃ i, P.info? e = some i ∧ i.size = size
class A2 (P : Program) (T : TypeId) (i : Nat) (off : outParam Nat) (ft : outParam TypeId) : Prop where
 out : ∃ fs fld, P.underlying T = some (.struct fs) ∧ fs[i]? = some fld ∧ fld.offset = off ∧ fld.type = ft ∧ ∃ j, P.info? ft = some j ∧ j.size ≠ 0
class StrT (P : Program) (T : TypeId) : Prop where
 out : P.underlying T = some .string
class IntT (P : Program) (T : TypeId) (k : outParam IntKind) : Prop where
 out : P.underlying T = some (.int k)
class AT (P : Program) (g : FuncId) : Prop where
 out : ∃ fn, P.funcs[g]? = some fn ∧ ¬ fn.name = "runtime.NumGoroutine" ∧ ¬ fn.body = none
variable {P : Program} {all : Array Oper} {Z : Fr → DS → List PanicEntry → World → Prop} {K : Fr → DS → World → Prop} {rest : List Oper} {f : Fr} {ds : DS} {w : World}
 {d : Nat} {ty : TypeId} {pos : String} {af : Array Edge}
theorem AJ (h : K f ds w) : AW P all Z K [] f ds w := h
theorem A5 {o : Oper} {v : Value} {w' : World} (hg : o.guard = none) (hr : (execOp (ev f) o).run P w = .ok (.value v) w') (h : AW P all Z K rest (putF f o.dst v) ds w') : AW P all Z K (o :: rest) f ds w := by
 unfold AW
 rw [hg]
 simp only [A7, if_true, By, hr]
 exact h
theorem W_skp {o : Oper} {w' : World} (hg : o.guard = none) (hr : (execOp (ev f) o).run P w = .ok .skip w') (h : AW P all Z K rest (putF f o.dst undef) ds w') : AW P all Z K (o :: rest) f ds w := by
 unfold AW
 rw [hg]
 simp only [A7, if_true, By, hr]
 exact h
theorem AE {dst : Option Nat} {op : Op} {j : Nat} {want : Bool} (hv : guardVal all f j = some want) (h : AW P all Z K (⟨dst, op, ty, pos, af, none⟩ :: rest) f ds w) : AW P all Z K (⟨dst, op, ty, pos, af, some (j, want)⟩ :: rest) f ds w := by
 unfold AW at h ⊢
 simp only [A7, hv, beq_self_eq_true, if_true] at h ⊢
 exact h
theorem AI {dst : Option Nat} {op : Op} {j : Nat} {want : Bool} (hv : (guardVal all f j == some want) = false) (h : AW P all Z K rest (putF f dst undef) ds w) : AW P all Z K (⟨dst, op, ty, pos, af, some (j, want)⟩ :: rest) f ds w := by
 unfold AW
 have e : A7 all f (some (j, want)) = false := hv
 simp only [e, Bool.false_eq_true, if_false]
 exact h
theorem Az {x : Operand} (h : AW P all Z K rest (upd f d (ev f x)) ds w) : AW P all Z K (⟨some d, .move x, ty, pos, af, none⟩ :: rest) f ds w :=
 A5 rfl (by simp [execOp]) h
theorem W_pick_t {c x y : Operand} (hc : ev f c = .bool true) (h : AW P all Z K rest (upd f d (ev f x)) ds w) : AW P all Z K (⟨some d, .pick c x y, ty, pos, af, none⟩ :: rest) f ds w :=
 A5 rfl (by simp [execOp, hc, asBool]) h
theorem W_pick_f {c x y : Operand} (hc : ev f c = .bool false) (h : AW P all Z K rest (upd f d (ev f y)) ds w) : AW P all Z K (⟨some d, .pick c x y, ty, pos, af, none⟩ :: rest) f ds w :=
 A5 rfl (by simp [execOp, hc, asBool]) h
theorem run_zero {T : TypeId} {L : List Value} [h : Co P T L] (w : World) : ∃ z, (zeroValue T).run P w = .ok z w ∧ z.cells = L.toArray := by
 obtain ⟨i, z, hi, hz, hc⟩ := h.out
 exact ⟨z, by simp [zeroValue, typeInfo, hi, hz], hc⟩
theorem Ay {T : TypeId} {L : List Value} [hT : Co P T L] (h : ∀ w', New w w' T L → AW P all Z K rest (upd f d (.pointer (some ⟨w.heap.size, 0, none⟩))) ds w') :
  AW P all Z K (⟨some d, .alloc T, ty, pos, af, none⟩ :: rest) f ds w := by
 obtain ⟨z, hz, hc⟩ := run_zero (P := P) (T := T) w
 refine A5 (v := .pointer (some ⟨w.heap.size, 0, none⟩)) (w' := w.alloc (.cells L.toArray T)) rfl ?_ (h _ (New.mk_alloc w L T))
 simp [execOp, Instr.alloc, hz, newVar, newRow, newObj, hc, Sem.run]
theorem Bq {T : TypeId} {x : Operand} {L : List Value} (hx : (ev f x).cells = L.toArray) (h : ∀ w', New w w' T L → AW P all Z K rest (upd f d (.pointer (some ⟨w.heap.size, 0, none⟩))) ds w') :
  AW P all Z K (⟨some d, .box T x, ty, pos, af, none⟩ :: rest) f ds w := by
 refine A5 (v := .pointer (some ⟨w.heap.size, 0, none⟩)) (w' := w.alloc (.cells L.toArray T)) rfl ?_ (h _ (New.mk_alloc w L T))
 simp [execOp, Instr.box, newVar, newRow, newObj, hx, Sem.run]
theorem AG {T : TypeId} {a : Operand} {b o : Nat} {v : Value} [hT : OneT P T] (ha : ev f a = .pointer (some ⟨b, o, none⟩)) (hc : w.cell? ⟨b, o, none⟩ = some v) (h : AW P all Z K rest (upd f d v) ds w) :
  AW P all Z K (⟨some d, .load T a, ty, pos, af, none⟩ :: rest) f ds w := by
 obtain ⟨dd, h1, h2⟩ := hT.out
 refine A5 (v := v) rfl ?_ h
 have e : (isAgg T).run P w = .ok false w := by
  simp only [isAgg, Sem.run_bind, run_underlying h1, Result.andThen_ok]
  cases dd <;> simp_all [aggD]
 simp only [execOp, ha, Instr.loadAt, Instr.sureAddr, loadVar, Sem.run_bind, Sem.run_pure, Result.andThen_ok, e]
 simp [run_load, hc]
theorem Ac {T : TypeId} {a : Operand} {b o n : Nat} {L : List Value} [hT : AggT P T n] (ha : ev f a = .pointer (some ⟨b, o, none⟩)) (hl : L.length = n) (hc : Cells w b o L)
  (h : AW P all Z K rest (upd f d (.agg L.toArray)) ds w) : AW P all Z K (⟨some d, .load T a, ty, pos, af, none⟩ :: rest) f ds w := by
 obtain ⟨⟨dd, h1, h2⟩, i, hi, hs⟩ := hT.out
 refine A5 (v := .agg L.toArray) rfl ?_ h
 have e : (isAgg T).run P w = .ok true w := by
  simp only [isAgg, Sem.run_bind, run_underlying h1, Result.andThen_ok]
  cases dd <;> simp_all [aggD]
 have hr := run_loadCells_list (P := P) w ⟨b, o, none⟩ L (fun j v hj => by rw [Addr.add_lit]; exact hc j v hj)
 rw [hl, ← hs] at hr
 simp only [execOp, ha, Instr.loadAt, Instr.sureAddr, loadVar, Sem.run_bind, Sem.run_pure, Result.andThen_ok, e, if_true, sizeOf, typeInfo, program]
 simp [Sem.run, hi, hr]
theorem Ao {T bt : TypeId} {a x : Operand} {b o : Nat} {v : Value} {L : List Value} [hT : CR P T 1] (ha : ev f a = .pointer (some ⟨b, o, none⟩)) (hx : ev f x = v) (h1 : v.oneCell' = true)
  (hb : Blk w b bt L) (ho : o < L.length) (h : ∀ w', Put w w' b bt (L.set o v) → AW P all Z K rest f ds w') :
  AW P all Z K (⟨none, .store T a x, ty, pos, af, none⟩ :: rest) f ds w := by
 obtain ⟨i, hi, hs⟩ := hT.out
 refine W_skp (w' := w.setCell ⟨b, o, none⟩ v) rfl ?_ (h _ (Put.mk_setCell hb o v))
 have hv : v.cells = #[v] := by cases v <;> simp_all [Value.cells, Value.oneCell']
 have hc : w.cell? ⟨b, o, none⟩ = some L[o] := hb.cell (by simp [ho])
 have hf := hb.frozen o
 simp only [execOp, ha, hx, Instr.storeAt, Instr.sureAddr, storeVar, Sem.run_bind, Sem.run_pure, Result.andThen_ok, sizeOf, typeInfo, program]
 simp [Sem.run, hi, hs, hv, storeCells, run_store P w _ v .plain h1, hc, hf, Addr.add]
def inR (k : IntKind) (n : Int) : Prop := k.min ≤ n ∧ n ≤ k.max
theorem wrap_in {k : IntKind} {n : Int} (h : inR k n) : k.wrap n = n := by
 obtain ⟨h1, h2⟩ := h
 cases k <;> simp [IntKind.min, IntKind.max, IntKind.signed, IntKind.bits] at h1 h2 <;> simp [IntKind.wrap, IntKind.signed, IntKind.bits] <;> omega
theorem Am {n : Int} (h1 : -9223372036854775808 ≤ n) (h2 : n ≤ 9223372036854775807) : inR .i64 n := by
 simp only [inR, IntKind.min, IntKind.max, IntKind.signed, IntKind.bits]; exact ⟨by simpa using h1, by simpa using h2⟩
theorem At {n : Int} (h1 : 0 ≤ n) (h2 : n ≤ 255) : inR .u8 n := by
 simp only [inR, IntKind.min, IntKind.max, IntKind.signed, IntKind.bits]; exact ⟨by simpa using h1, by simpa using h2⟩
theorem Al {n : Int} (h1 : 0 ≤ n) (h2 : n ≤ 65535) : inR .u16 n := by
 simp only [inR, IntKind.min, IntKind.max, IntKind.signed, IntKind.bits]; exact ⟨by simpa using h1, by simpa using h2⟩
section
variable {x y : Operand} {xt yt : TypeId} {k : IntKind} {a b : Int}
theorem BK (hx : ev f x = .int k a) (hy : ev f y = .int k b) (hr : inR k (a + b)) (h : AW P all Z K rest (upd f d (.int k (a + b))) ds w) :
  AW P all Z K (⟨some d, .binOp .add xt x y yt, ty, pos, af, none⟩ :: rest) f ds w :=
 A5 rfl (by simp [execOp, hx, hy, eqGuard, binOp, Op.intArith, wrap_in hr]) h
theorem W_sub (hx : ev f x = .int k a) (hy : ev f y = .int k b) (hr : inR k (a - b)) (h : AW P all Z K rest (upd f d (.int k (a - b))) ds w) :
  AW P all Z K (⟨some d, .binOp .sub xt x y yt, ty, pos, af, none⟩ :: rest) f ds w :=
 A5 rfl (by simp [execOp, hx, hy, eqGuard, binOp, Op.intArith, wrap_in hr]) h
theorem W_mul (hx : ev f x = .int k a) (hy : ev f y = .int k b) (hr : inR k (a * b)) (h : AW P all Z K rest (upd f d (.int k (a * b))) ds w) :
  AW P all Z K (⟨some d, .binOp .mul xt x y yt, ty, pos, af, none⟩ :: rest) f ds w :=
 A5 rfl (by simp [execOp, hx, hy, eqGuard, binOp, Op.intArith, wrap_in hr]) h
theorem W_lss (hx : ev f x = .int k a) (hy : ev f y = .int k b) (ht : a < b → AW P all Z K rest (upd f d (.bool true)) ds w) (hf : b ≤ a → AW P all Z K rest (upd f d (.bool false)) ds w) :
  AW P all Z K (⟨some d, .binOp .lss xt x y yt, ty, pos, af, none⟩ :: rest) f ds w := by
 by_cases hc : a < b
 ·exact A5 rfl (by simp [execOp, hx, hy, eqGuard, binOp, Op.intCmp, hc]) (ht hc)
 ·exact A5 rfl (by simp [execOp, hx, hy, eqGuard, binOp, Op.intCmp, hc]) (hf (by omega))
theorem W_leq (hx : ev f x = .int k a) (hy : ev f y = .int k b) (ht : a ≤ b → AW P all Z K rest (upd f d (.bool true)) ds w) (hf : b < a → AW P all Z K rest (upd f d (.bool false)) ds w) :
  AW P all Z K (⟨some d, .binOp .leq xt x y yt, ty, pos, af, none⟩ :: rest) f ds w := by
 by_cases hc : a ≤ b
 ·exact A5 rfl (by simp [execOp, hx, hy, eqGuard, binOp, Op.intCmp, hc]) (ht hc)
 ·exact A5 rfl (by simp [execOp, hx, hy, eqGuard, binOp, Op.intCmp, hc]) (hf (by omega))
theorem W_gtr (hx : ev f x = .int k a) (hy : ev f y = .int k b) (ht : b < a → AW P all Z K rest (upd f d (.bool true)) ds w) (hf : a ≤ b → AW P all Z K rest (upd f d (.bool false)) ds w) :
  AW P all Z K (⟨some d, .binOp .gtr xt x y yt, ty, pos, af, none⟩ :: rest) f ds w := by
 by_cases hc : b < a
 ·exact A5 rfl (by simp [execOp, hx, hy, eqGuard, binOp, Op.intCmp, hc]) (ht hc)
 ·exact A5 rfl (by simp [execOp, hx, hy, eqGuard, binOp, Op.intCmp, hc]) (hf (by omega))
theorem W_geq (hx : ev f x = .int k a) (hy : ev f y = .int k b) (ht : b ≤ a → AW P all Z K rest (upd f d (.bool true)) ds w) (hf : a < b → AW P all Z K rest (upd f d (.bool false)) ds w) :
  AW P all Z K (⟨some d, .binOp .geq xt x y yt, ty, pos, af, none⟩ :: rest) f ds w := by
 by_cases hc : b ≤ a
 ·exact A5 rfl (by simp [execOp, hx, hy, eqGuard, binOp, Op.intCmp, hc]) (ht hc)
 ·exact A5 rfl (by simp [execOp, hx, hy, eqGuard, binOp, Op.intCmp, hc]) (hf (by omega))
theorem B0 (hx : ev f x = .int k a) (hy : ev f y = .int k b) (ht : a = b → AW P all Z K rest (upd f d (.bool true)) ds w) (hf : a ≠ b → AW P all Z K rest (upd f d (.bool false)) ds w) :
  AW P all Z K (⟨some d, .binOp .eql xt x y yt, ty, pos, af, none⟩ :: rest) f ds w := by
 by_cases hc : a = b
 ·exact A5 rfl (by simp [execOp, hx, hy, eqGuard, binOp, Op.intCmp, hc]) (ht hc)
 ·exact A5 rfl (by simp [execOp, hx, hy, eqGuard, binOp, Op.intCmp, hc]) (hf hc)
theorem W_neq (hx : ev f x = .int k a) (hy : ev f y = .int k b) (ht : a ≠ b → AW P all Z K rest (upd f d (.bool true)) ds w) (hf : a = b → AW P all Z K rest (upd f d (.bool false)) ds w) :
  AW P all Z K (⟨some d, .binOp .neq xt x y yt, ty, pos, af, none⟩ :: rest) f ds w := by
 by_cases hc : a = b
 ·exact A5 rfl (by simp [execOp, hx, hy, eqGuard, binOp, Op.intCmp, hc]) (hf hc)
 ·exact A5 rfl (by simp [execOp, hx, hy, eqGuard, binOp, Op.intCmp, hc]) (ht hc)
theorem A9 {c : Bool} (hx : ev f x = .bool c) (h : AW P all Z K rest (upd f d (.bool (!c))) ds w) :
  AW P all Z K (⟨some d, .unOp .not xt x, ty, pos, af, none⟩ :: rest) f ds w :=
 A5 rfl (by simp [execOp, hx, Op.unary]) h
theorem W_conv [hs : IntT P yt k] {k' : IntKind} (hx : ev f x = .int k' a) (hr : inR k a) (h : AW P all Z K rest (upd f d (.int k a)) ds w)
  {st : TypeId} [hst : IntT P st k'] : AW P all Z K (⟨some d, .convert st yt x, ty, pos, af, none⟩ :: rest) f ds w :=
 A5 rfl (by simp [execOp, hx, convert, run_underlying hs.out, run_underlying hst.out, Conv.intToInt, wrap_in hr]) h
end
abbrev AL (l : List UInt8) : Value := .string ⟨l.toArray⟩
section
variable {x y : Operand} {xt yt : TypeId} {s t : List UInt8}
theorem CM (hx : ev f x = AL s) (hy : ev f y = AL t) (ht : s = t → AW P all Z K rest (upd f d (.bool true)) ds w) (hf : s ≠ t → AW P all Z K rest (upd f d (.bool false)) ds w) :
  AW P all Z K (⟨some d, .binOp .eql xt x y yt, ty, pos, af, none⟩ :: rest) f ds w := by
 by_cases hc : s = t
 ·exact A5 rfl (by simp [execOp, hx, hy, eqGuard, binOp, Op.stringOp, hc]) (ht hc)
 ·exact A5 rfl (by simp [execOp, hx, hy, eqGuard, binOp, Op.stringOp, hc]) (hf hc)
theorem W_sneq (hx : ev f x = AL s) (hy : ev f y = AL t) (ht : s ≠ t → AW P all Z K rest (upd f d (.bool true)) ds w) (hf : s = t → AW P all Z K rest (upd f d (.bool false)) ds w) :
  AW P all Z K (⟨some d, .binOp .neq xt x y yt, ty, pos, af, none⟩ :: rest) f ds w := by
 by_cases hc : s = t
 ·exact A5 rfl (by simp [execOp, hx, hy, eqGuard, binOp, Op.stringOp, hc]) (hf hc)
 ·exact A5 rfl (by simp [execOp, hx, hy, eqGuard, binOp, Op.stringOp, hc]) (ht hc)
theorem DU (hx : ev f x = AL s) (hy : ev f y = AL t) (hl : s.length + t.length ≤ 9223372036854775807) (h : AW P all Z K rest (upd f d (AL (s ++ t))) ds w) :
  AW P all Z K (⟨some d, .binOp .add xt x y yt, ty, pos, af, none⟩ :: rest) f ds w := by
 refine A5 rfl ?_ h
 have e : (⟨s.toArray⟩ ++ ⟨t.toArray⟩ : ByteArray) = ⟨(s ++ t).toArray⟩ := by
  apply ByteArray.ext
  simp
 have h1 : (⟨s.toArray⟩ : ByteArray).size = s.length := by simp [ByteArray.size]
 have h2 : (⟨t.toArray⟩ : ByteArray).size = t.length := by simp [ByteArray.size]
 simp [execOp, hx, hy, eqGuard, binOp, Op.stringOp, h1, h2, e]
 omega
theorem W_sindex {i : Operand} {k : IntKind} {j : Int} {c : UInt8} [hT : StrT P xt] (hx : ev f x = AL s) (hi : ev f i = .int k j) (h0 : 0 ≤ j) (hc : s[j.toNat]? = some c) (h : AW P all Z K rest (upd f d (enc8 c)) ds w) :
  AW P all Z K (⟨some d, .index xt x i, ty, pos, af, none⟩ :: rest) f ds w := by
 refine A5 rfl ?_ h
 obtain ⟨hlt, hg⟩ := List.getElem?_eq_some_iff.1 hc
 have e : (⟨s.toArray⟩ : ByteArray)[j.toNat]? = some c := by
  simp only [getElem?_def, ByteArray.size]
  simp [hlt]
  exact hg
 simp [execOp, hx, hi, Instr.index, asIntOf, run_underlying hT.out, h0, e, enc8]
end
theorem AD {T i off : Nat} {ft : TypeId} {x : Operand} {b o : Nat} [hT : A2 P T i off ft] (hx : ev f x = .pointer (some ⟨b, o, none⟩)) (h : AW P all Z K rest (upd f d (.pointer (some ⟨b, o + off, none⟩))) ds w) :
  AW P all Z K (⟨some d, .fieldAddr T x i, ty, pos, af, none⟩ :: rest) f ds w := by
 obtain ⟨fs, fld, h1, h2, h3, h4, j, hj, hjs⟩ := hT.out
 refine A5 rfl ?_ h
 simp only [execOp, hx, Instr.fieldAt, Sem.run_bind, run_underlying h1, Result.andThen_ok, h2, Instr.sureAddr, Sem.run_pure, fieldPlace, sizeOf, typeInfo, program]
 simp [Sem.run, h4, hj, hjs, h3, Addr.add_lit]
theorem BO {T e size bytes : Nat} {z : Value} {x i : Operand} {b o n c : Nat} {k : IntKind} {j : Int} [hT : SlT P T e size bytes z] (hx : ev f x = .slice (some ⟨b, o, none⟩) n c) (hi : ev f i = .int k j)
  (h0 : 0 ≤ j) (h1 : j < n) (h : AW P all Z K rest (upd f d (.pointer (some ⟨b, o + j.toNat * size, none⟩))) ds w) :
  AW P all Z K (⟨some d, .indexAddr T x i, ty, pos, af, none⟩ :: rest) f ds w := by
 obtain ⟨q, hq, _, hs, _⟩ := hT.out
 refine A5 rfl ?_ h
 simp only [execOp, hx, hi, Instr.indexAt, asIntOf, Sem.run_bind, Sem.run_pure, Result.andThen_ok, run_underlying hT.und, sizeOf, typeInfo, program]
 simp [Sem.run, hq, hs, h0, h1, Addr.add_lit]
theorem W_indexArr {T len e size : Nat} {x i : Operand} {b o : Nat} {k : IntKind} {j : Int} [hT : ArrT P T len e size] (hx : ev f x = .pointer (some ⟨b, o, none⟩)) (hi : ev f i = .int k j)
  (h0 : 0 ≤ j) (h1 : j < len) (h : AW P all Z K rest (upd f d (.pointer (some ⟨b, o + j.toNat * size, none⟩))) ds w) :
  AW P all Z K (⟨some d, .indexAddr T x i, ty, pos, af, none⟩ :: rest) f ds w := by
 obtain ⟨q, hq, hs⟩ := hT.out
 refine A5 rfl ?_ h
 simp only [execOp, hx, hi, Instr.indexAt, asIntOf, Sem.run_bind, Sem.run_pure, Result.andThen_ok, run_underlying hT.und, sizeOf, typeInfo, program, Instr.sureAddr]
 simp [Sem.run, hq, hs, h0, h1, Addr.add_lit]
theorem CD {T e size bytes : Nat} {z : Value} {x i : Operand} {b o n c k : Nat} {kk : IntKind} {j : Int} [hT : SlT P T e size bytes z] (hx : ev f x = .slice (some ⟨b, o, none⟩) n c) (hi : ev f i = .int kk j)
  (hj : j = (k : Int)) (h1 : k < n) (h : AW P all Z K rest (upd f d (.pointer (some ⟨b, o + k * size, none⟩))) ds w) :
  AW P all Z K (⟨some d, .indexAddr T x i, ty, pos, af, none⟩ :: rest) f ds w := by
 subst hj
 exact BO hx hi (by omega) (by omega) (by simpa using h)
theorem W_idx1 {T e bytes : Nat} {z : Value} {x i : Operand} {b o n c k : Nat} {kk : IntKind} {j : Int} [hT : SlT P T e 1 bytes z] (hx : ev f x = .slice (some ⟨b, o, none⟩) n c) (hi : ev f i = .int kk j)
  (hj : j = (k : Int)) (h1 : k < n) (h : AW P all Z K rest (upd f d (.pointer (some ⟨b, o + k, none⟩))) ds w) :
  AW P all Z K (⟨some d, .indexAddr T x i, ty, pos, af, none⟩ :: rest) f ds w :=
 CD hx hi hj h1 (by simpa using h)
theorem Ag {x : Operand} {vs : List Value} {i : Nat} {v : Value} (hx : ev f x = .tuple vs.toArray) (hi : vs[i]? = some v) (h : AW P all Z K rest (upd f d v) ds w) :
  AW P all Z K (⟨some d, .extract x i, ty, pos, af, none⟩ :: rest) f ds w :=
 A5 rfl (by simp [execOp, hx, Instr.extract, hi]) h
theorem evL_map (f : Fr) : ∀ l : List Operand, evL f l = l.map (ev f)
 | [] => rfl
 | _ :: l => by simp [evL, evL_map f l]
theorem Aa {g : FuncId} {xs : List Operand} {ats : Array TypeId} {vs : List Value} {R : Value → World → Prop} {Y : List PanicEntry → World → Prop} [hg : AT P g]
  (hc : FnP P g vs w R Y) (ha : evL f xs = vs) (h : ∀ v w', R v w' → AW P all Z K rest (upd f d v) ds w') (hz : ∀ ch w', Y ch w' → Z f ds ch w') :
  AW P all Z K (⟨some d, .call ⟨.value (.func g), xs.toArray, ats⟩, ty, pos, af, none⟩ :: rest) f ds w := by
 obtain ⟨fn, h1, h2, h3⟩ := hg.out
 have hr : (execOp (ev f) ⟨some d, .call ⟨.value (.func g), xs.toArray, ats⟩, ty, pos, af, none⟩).run P w = .ok (.enter g vs.toArray) w := by
  rw [evL_map] at ha
  simp only [execOp, resolve, ev, Deferred.ofValue, Sem.run_bind, Sem.run_pure, Result.andThen_ok, invoke, callFunc, program]
  simp [Sem.run, h1, h2, h3, ← ha]
 unfold AW
 simp only [A7, if_true, By, hr]
 refine Calls.mono hc fun e w' he => ?_
 cases e with
 | returned v => exact h v w' he
 | panicked ch => exact hz ch w' he
 | outgrown => exact he
theorem AS {g : FuncId} {xs : List Operand} {ats : Array TypeId} {vs : List Value} {R : Value → World → Prop} [hg : AT P g]
  (hc : Fn P g vs w R) (ha : evL f xs = vs) (h : ∀ v w', R v w' → AW P all Z K rest (upd f d v) ds w') :
  AW P all Z K (⟨some d, .call ⟨.value (.func g), xs.toArray, ats⟩, ty, pos, af, none⟩ :: rest) f ds w :=
 Aa hc ha h fun _ _ h => h.elim
theorem As {x : Operand} {T e size bytes : Nat} {z : Value} {a : Option Addr} {n c : Nat} [hT : SlT P T e size bytes z] (hx : ev f x = .slice a n c) (h : AW P all Z K rest (upd f d (.int .i64 (n : Int))) ds w) :
  AW P all Z K (⟨some d, .call ⟨.builtin .len, #[x], #[T]⟩, ty, pos, af, none⟩ :: rest) f ds w := by
 refine A5 (v := .int .i64 (n : Int)) rfl ?_ h
 simp [execOp, resolve, invoke, builtin, Builtin.len_, hx, run_underlying hT.und, goInt]
theorem Au {x : Operand} {T : TypeId} {s : List UInt8} [hT : StrT P T] (hx : ev f x = AL s) (h : AW P all Z K rest (upd f d (.int .i64 (s.length : Int))) ds w) :
  AW P all Z K (⟨some d, .call ⟨.builtin .len, #[x], #[T]⟩, ty, pos, af, none⟩ :: rest) f ds w := by
 refine A5 (v := .int .i64 (s.length : Int)) rfl ?_ h
 have h1 : (⟨s.toArray⟩ : ByteArray).size = s.length := rfl
 simp [execOp, resolve, invoke, builtin, Builtin.len_, hx, run_underlying hT.out, goInt, h1]
section
variable {T e size bytes : Nat} {z : Value} {x lo hi : Operand} {a : Option Addr} {n c : Nat} {k k' : IntKind} {l h' : Int}
theorem W_slice_l [hT : SlT P T e size bytes z] (hx : ev f x = .slice a n c) (hl : ev f lo = .int k l) (h0 : 0 ≤ l) (h1 : l ≤ n)
  (h : AW P all Z K rest (upd f d (.slice (adv c l.toNat size a) (n - l.toNat) (c - l.toNat))) ds w) :
  AW P all Z K (⟨some d, .slice T x (some lo) none none, ty, pos, af, none⟩ :: rest) f ds w := by
 obtain ⟨q, hq, _, hs, _⟩ := hT.out
 refine A5 rfl ?_ h
 simp only [execOp, hx, hl, Option.map_some, Option.map_none, Instr.sliceAt, Sem.run_bind, run_underlying hT.und, Result.andThen_ok, Instr.slice, Instr.sliceBounds, Instr.sliceBound, asIntOf, Sem.run_pure, sizeOf, typeInfo, program]
 simp [Sem.run, hq, hs, h0, h1, adv]
theorem W_slice_h [hT : SlT P T e size bytes z] (hx : ev f x = .slice a n c) (hh : ev f hi = .int k' h') (h1 : 0 ≤ h') (h2 : h' ≤ c)
  (h : AW P all Z K rest (upd f d (.slice a h'.toNat c)) ds w) :
  AW P all Z K (⟨some d, .slice T x none (some hi) none, ty, pos, af, none⟩ :: rest) f ds w := by
 obtain ⟨q, hq, _, hs, _⟩ := hT.out
 refine A5 rfl ?_ h
 simp only [execOp, hx, hh, Option.map_some, Option.map_none, Instr.sliceAt, Sem.run_bind, run_underlying hT.und, Result.andThen_ok, Instr.slice, Instr.sliceBounds, Instr.sliceBound, asIntOf, Sem.run_pure, sizeOf, typeInfo, program]
 have e : (if c = 0 then a else a.map fun (x : Addr) => x.add 0) = a := by
  split
  ·rfl
  ·cases a with
   | none => rfl
   | some a => simp [Addr.add]
 simp [Sem.run, hq, hs, h1, h2, e]
end
end Go.Proofs.YtfcgdbmoncnibaaGreatDoor
namespace Go.Proofs.YtfcgdbmoncnibaaGreatDoor
open Go.RowKit
variable {mk : Prop} [MK mk]
attribute [local semireducible] WC AW B6 BZ B8 Cw DY By
variable {P : Program} {all : Array Oper} {Z : Fr → DS → List PanicEntry → World → Prop} {K : Fr → DS → World → Prop} {rest : List Oper} {f : Fr} {ds : DS} {w : World}
 {d : Nat} {ty : TypeId} {pos : String} {af : Array Edge}
def oneC (cs : List Value) : Prop := ∀ u ∈ cs, u.oneCell' = true
structure Apd (w w' : World) (B : Nat) (e size : Nat) (v v' : Value) (n : Nat) (xs : List Value) : Prop where
 own : w'.ownsRow B e size v' n xs
 keep : Keep v.ownBlock.toList w w'
 blk : v'.ownBlock = v.ownBlock ∨ v'.ownBlock = some w.heap.size
 some : n ≠ 0 → v'.ownBlock ≠ none
theorem own_some {w : World} {B e size : Nat} {v : Value} {n : Nat} {xs : List Value} (h : w.ownsRow B e size v n xs) (hn : n ≠ 0) : v.ownBlock ≠ none := by
 rcases h.2 with ⟨_, h0⟩ | ⟨g, _, _, rfl, _⟩
 ·exact absurd h0 hn
 ·simp [Value.ownBlock]
theorem run_append_sl {T e size bytes : Nat} {z : Value} (hT : SlT P T e size bytes z) (hsz : 0 < size) (hzs : z.cells.size = size) (t : TypeId) {B : Nat} {v sv : Value} {n m : Nat} {xs cs : List Value} {ok : Nat → Prop}
  (hown : w.ownsRow B e size v n xs) (hs : Sl ok w sv m cs) (hl : cs.length = m * size) (h1 : oneC cs) (hm : n + m ≤ maxLen) (hb : (n + m) * bytes ≤ 140737488355328) (hB : B ≤ w.heap.size) :
  ∃ v' w', (Builtin.append_ #[T, T] t #[v, sv]).run P w = .ok v' w' ∧ Apd w w' B e size v v' (n + m) (xs ++ cs) := by
 obtain ⟨i, hi, hz, hsi, hby⟩ := hT.out
 obtain ⟨a, cap, rfl, hmc, _, hnil, hcells⟩ := hs
 cases a with
 | none =>
  have hc0 := hnil rfl
  subst hc0
  obtain rfl : m = 0 := by omega
  obtain rfl : cs = [] := List.eq_nil_of_length_eq_zero (by simpa using hl)
  have hr := run_append_owned_none (P := P) w B T t e i size hT.und hi v n xs hown
  exact ⟨v, w, hr, by simpa using hown, Keep.refl _ _, .inl rfl, fun hn => own_some hown (by omega)⟩
 | some ad =>
  have hnews : ∀ j u, cs[j]? = some u → w.cell? (ad.add j) = some u := by
   intro j u hu
   rcases hcells with h0 | ⟨b, off, he, _, hc⟩
   ·subst h0
    have : cs = [] := List.eq_nil_of_length_eq_zero (by simpa using hl)
    rw [this] at hu; simp at hu
   ·cases he
    rw [Addr.add_lit]
    exact hc j u hu
  obtain ⟨v', w', hr, ho, hg, hn'⟩ := run_append_own (P := P) w B T t e i z size bytes hT.und hi hz hsi hby hzs hsz v n xs hown ad m cap cs hl hnews h1 hm hb hB
  have hm' : ((n + m : Nat) : Int) ≤ 9223372036854775807 := by simp only [maxLen] at hm; omega
  have mk_al : ∀ o c, o = Obj.cells c e (0, 0) → ∀ b, (b < w.heap.size → Unm w b) → Unm (w.drew.alloc o) b := fun o c ho => mark_new (by simp) (fun k hk => heap_alloc_old w.drew o hk) (Unm.cells (c := c) (t := e) (by rw [← ho]; exact heap_alloc_new w.drew o))
  have key : (∀ b, (b < w.heap.size → Unm w b) → Unm w' b) ∧ (v'.ownBlock = v.ownBlock ∨ v'.ownBlock = some w.heap.size) := by
   rcases hown.2 with ⟨rfl, rfl⟩ | ⟨g, cp, cur, rfl, _, hgg, hnc, _, hcs, htake⟩
   ·by_cases h0 : m = 0
    ·subst h0
     have hn : cs = [] := List.eq_nil_of_length_eq_zero (by simpa using hl)
     subst hn
     have hx : (Builtin.append_ #[T, T] t #[.slice none 0 0, .slice (some ad) 0 cap]).run P w = .ok (.slice none 0 0) w := by
      simp [Builtin.append_, run_underlying hT.und, sizeOf, typeInfo, hi, Builtin.lenOf, Builtin.firstCells, loadCells, loadCellsFrom]
     rw [hr] at hx
     cases hx
     exact ⟨mark_refl w, .inl rfl⟩
    ·have hx := run_append_nil (P := P) w T t e i z hT.und hi hz ad m cap cs (by rw [hsi]; exact hl) hnews (by omega) (by simpa using hm') (by rw [hby]; have := hb; simp only [Nat.zero_add] at this; omega)
     rw [hr] at hx
     cases hx
     exact ⟨mk_al _ _ rfl, .inr rfl⟩
   ·by_cases hroom : n + m ≤ cp
    ·have hx := run_append_room (P := P) w T t e i hT.und hi g n cp cur hgg ad m cap cs (by rw [hsi]; exact hl) hnews h1 hroom (by rw [hl, hcs, hsi, ← Nat.add_mul]; exact Nat.mul_le_mul_right _ hroom)
     rw [hr] at hx
     cases hx
     exact ⟨mark_put (g := g) (by simp [World.setRow]) (fun k hk => setRow_other w g k _ hk) (Unm.cells (setRow_heap w g _ _ e _ hgg)), .inl rfl⟩
    ·have hx := run_append_grow (P := P) w T t e i z hT.und hi hz ⟨g, 0, none⟩ n cp xs (by rw [hsi]; exact hown.1) (fun j u hu => hown.cells (g := g) rfl j u hu) ad m cap cs (by rw [hsi]; exact hl) hnews (by omega) hm' (by rw [hby]; exact growslice_fits (by omega) hb)
     rw [hr] at hx
     cases hx
     exact ⟨mk_al _ _ rfl, .inr rfl⟩
  exact ⟨v', w', hr, ho, Keep.of_grown hg (fun _ => key.1), key.2, fun hn => own_some ho hn⟩
theorem Bl {T e size bytes : Nat} {z : Value} {s x : Operand} {B n m : Nat} {v sv : Value} {xs cs : List Value} {ok : Nat → Prop} [hT : SlT P T e size bytes z] (hv : ev f s = v) (hx : ev f x = sv)
  (hown : w.ownsRow B e size v n xs) (hs : Sl ok w sv m cs) (hsz : 0 < size) (hzs : z.cells.size = size) (hl : cs.length = m * size) (h1 : oneC cs) (hm : n + m ≤ 9223372036854775807) (hb : (n + m) * bytes ≤ 140737488355328) (hB : B ≤ w.heap.size)
  (h : ∀ v' w', Apd w w' B e size v v' (n + m) (xs ++ cs) → AW P all Z K rest (upd f d v') ds w') :
  AW P all Z K (⟨some d, .call ⟨.builtin .append, #[s, x], #[T, T]⟩, ty, pos, af, none⟩ :: rest) f ds w := by
 obtain ⟨v', w', hr, ha⟩ := run_append_sl (P := P) hT hsz hzs ty hown hs hl h1 (by unfold maxLen; omega) hb hB
 refine A5 (v := v') (w' := w') rfl ?_ (h v' w' ha)
 simp [execOp, resolve, invoke, builtin, hv, hx, hr]
theorem AZ {T bt n : Nat} {a x : Operand} {b o : Nat} {cs L : List Value} [hT : CR P T n] (ha : ev f a = .pointer (some ⟨b, o, none⟩)) (hx : ev f x = .agg cs.toArray) (hn : cs.length = n) (h1 : oneC cs)
  (hb : Blk w b bt L) (ho : o + n ≤ L.length) (h : ∀ w', Put w w' b bt (splice L o cs) → AW P all Z K rest f ds w') :
  AW P all Z K (⟨none, .store T a x, ty, pos, af, none⟩ :: rest) f ds w := by
 obtain ⟨i, hi, hs⟩ := hT.out
 have hg : w.heap[b]? = some (.cells L.toArray bt (0, 0)) := hb
 have hst := run_storeCells_at P b o bt cs 0 L.toArray w hg (by simp; omega) h1
 simp only [Nat.add_zero] at hst
 refine W_skp (w' := w.setRow b (splice L o cs).toArray) rfl ?_ (h _ ⟨⟨rfl, rfl, rfl, by simp [World.setRow], fun k _ hk => setRow_other w b k _ (by simpa using hk), fun _ => mark_put (g := b) (by simp [World.setRow]) (fun k hk => setRow_other w b k _ hk) (Unm.cells (setRow_heap w b _ _ bt _ hg))⟩, by simp [World.setRow], setRow_heap w b _ _ bt _ hg⟩)
 simp only [execOp, ha, hx, Instr.storeAt, Instr.sureAddr, storeVar, Sem.run_bind, Sem.run_pure, Result.andThen_ok, sizeOf, typeInfo, program, Value.cells]
 simp [Sem.run, hi, hs, hn]
 rw [hst]
 simp [splice]
class StT (P : Program) (T : TypeId) (places : outParam (List (Nat × Nat))) (zero : outParam (List Value)) : Prop where
 out : ∃ fs i z, P.underlying T = some (.struct fs) ∧ P.info? T = some i ∧ i.zero = some z ∧ z.cells = zero.toArray ∧
  ∀ w, (fs.mapM (m := Sem) fun f => do pure (f.offset, ← sizeOf f.type)).run P w = .ok places.toArray w
def fillL (place : Nat → Option (Nat × Nat)) (cells : List Value) : List (Nat × Value) → Option (List Value)
 | [] => some cells
 | (i, v) :: rest =>
  match place i with
  | none => none
  | some (off, size) => if v.cells.size = size ∧ off + size ≤ cells.length then fillL place (splice cells off v.cells.toList) rest else none
theorem foldl_set (cs : List Value) : ∀ (k off : Nat) (cells : Array Value), off + k + cs.length ≤ cells.size →
  (cs.zipIdx k).foldl (fun (a : Array Value) (p : Value × Nat) => a.setIfInBounds (off + p.2) p.1) cells = (splice cells.toList (off + k) cs).toArray := by
 induction cs with
 | nil => intro k off cells _; simp [splice]
 | cons c cs ih =>
  intro k off cells h
  simp only [List.zipIdx_cons, List.foldl_cons]
  simp only [List.length_cons] at h
  rw [ih (k + 1) off _ (by simp; omega)]
  congr 1
  simp only [splice, Array.toList_setIfInBounds, List.length_cons]
  have e : off + (k + 1) = off + k + 1 := by omega
  rw [e, List.take_set, List.drop_set, if_pos (by omega)]
  rw [List.take_succ_eq_append_getElem (by simp; omega)]
  rw [List.set_append_right _ _ (by simp; omega)]
  have e3 : off + k - min (off + k) cells.size = 0 := by omega
  have e4 : off + k + 1 + cs.length = off + k + (cs.length + 1) := by omega
  simp [e3, e4]
theorem fill_of_fillL (place : Nat → Option (Nat × Nat)) : ∀ (parts : List (Nat × Value)) (cells out : List Value), fillL place cells parts = some out → Instr.fill place cells.toArray parts = some out.toArray
 | [], cells, out, h => by simp only [fillL, Option.some.injEq] at h; subst h; rfl
 | (i, v) :: rest, cells, out, h => by
  simp only [fillL] at h
  simp only [Instr.fill]
  cases hp : place i with
  | none => simp [hp] at h
  | some p =>
   obtain ⟨off, size⟩ := p
   simp only [hp] at h
   split at h
   ·rename_i hc
    obtain ⟨h1, h2⟩ := hc
    have e1 : (v.cells.size ≠ size || decide (off + v.cells.size > cells.toArray.size)) = false := by
     simp [h1]; omega
    simp only [e1, Bool.false_eq_true, if_false]
    have hf : v.cells.zipIdx.foldl (fun cs (x : Value × Nat) => match x with | (c, j) => cs.setIfInBounds (off + j) c) cells.toArray = (splice cells off v.cells.toList).toArray := by
     rw [← Array.foldl_toList]
     have := foldl_set v.cells.toList 0 off cells.toArray (by simp; omega)
     simpa using this
    rw [hf]
    exact fill_of_fillL place rest _ _ h
   ·cases h
def evP (f : Fr) : List (Nat × Operand) → List (Nat × Value)
 | [] => []
 | (i, x) :: l => (i, ev f x) :: evP f l
theorem evP_map (f : Fr) : ∀ l : List (Nat × Operand), evP f l = l.map fun p => (p.1, ev f p.2)
 | [] => rfl
 | (i, x) :: l => by simp [evP, evP_map f l]
theorem Ad {T : TypeId} {parts : List (Nat × Operand)} {vs : List (Nat × Value)} {places : List (Nat × Nat)} {zero out : List Value} [hT : StT P T places zero] (hv : evP f parts = vs) (ho : fillL (fun i => places[i]?) zero vs = some out)
  (h : AW P all Z K rest (upd f d (.agg out.toArray)) ds w) : AW P all Z K (⟨some d, .build T parts.toArray, ty, pos, af, none⟩ :: rest) f ds w := by
 obtain ⟨fs, i, z, h1, h2, h3, h4, h5⟩ := hT.out
 refine A5 rfl ?_ h
 rw [evP_map] at hv
 have hfill := fill_of_fillL _ _ _ _ ho
 have hz : (zeroValue T).run P w = .ok z w := by simp [zeroValue, typeInfo, h2, h3]
 have e : Array.map (fun (x : Nat × Operand) => match x with | (i, x) => (i, ev f x)) parts.toArray = vs.toArray := by
  rw [← hv]; simp
 simp only [execOp, e, Instr.build, Sem.run_bind, hz, Result.andThen_ok, run_underlying h1, h4]
 rw [h5 w]
 simp only [Result.andThen_ok]
 have e2 : (fun i : Nat => places.toArray[i]?) = fun i => places[i]? := by funext i; simp
 rw [e2, hfill]
 simp
theorem W_buildArr {T len e size : Nat} {parts : List (Nat × Operand)} {vs : List (Nat × Value)} {zero out : List Value} [hT : ArrT P T len e size] [hZ : Co P T zero] (hv : evP f parts = vs) (ho : fillL (fun i => some (i * size, size)) zero vs = some out)
  (h : AW P all Z K rest (upd f d (.agg out.toArray)) ds w) : AW P all Z K (⟨some d, .build T parts.toArray, ty, pos, af, none⟩ :: rest) f ds w := by
 obtain ⟨j, hj, hs⟩ := hT.out
 obtain ⟨z, hz, hzc⟩ := run_zero (P := P) (T := T) w
 refine A5 rfl ?_ h
 rw [evP_map] at hv
 have hfill := fill_of_fillL _ _ _ _ ho
 have e : Array.map (fun (x : Nat × Operand) => match x with | (i, x) => (i, ev f x)) parts.toArray = vs.toArray := by
  rw [← hv]; simp
 simp only [execOp, e, Instr.build, Sem.run_bind, hz, Result.andThen_ok, run_underlying hT.und, hzc, sizeOf, typeInfo, program]
 simp [Sem.run, hj, hs, hfill]
theorem AV {T e size bytes n : Nat} {z : Value} {parts : List (Nat × Operand)} {vs : List (Nat × Value)} {out : List Value} [hT : SlT P T e size bytes z] (hv : evP f parts = vs) (hn : n * size ≤ 16777216)
  (ho : fillL (fun i => some (i * size, size)) (madeCells z.cells (n * size)).toList vs = some out)
  (h : ∀ w', New w w' e out → AW P all Z K rest (upd f d (.slice (some ⟨w.heap.size, 0, none⟩) n n)) ds w') : AW P all Z K (⟨some d, .buildSlice T n parts.toArray, ty, pos, af, none⟩ :: rest) f ds w := by
 obtain ⟨i, hi, hz, hsi, hby⟩ := hT.out
 refine A5 (v := .slice (some ⟨w.heap.size, 0, none⟩) n n) (w' := w.alloc (.cells out.toArray e)) rfl ?_ (h _ (New.mk_alloc w _ e))
 rw [evP_map] at hv
 have hfill := fill_of_fillL _ _ _ _ ho
 have he : Array.map (fun (x : Nat × Operand) => match x with | (i, x) => (i, ev f x)) parts.toArray = vs.toArray := by
  rw [← hv]; simp
 have hn' : ¬ (16777216 < n * size) := by omega
 have hmade : (madeCells z.cells (n * size)).toList.toArray = (Array.range (n * size)).map (fun j => z.cells[j % z.cells.size]!) := by rw [Array.toArray_toList]; rfl
 rw [hmade] at hfill
 simp only [execOp, he, Instr.buildSlice, Sem.run_bind, run_underlying hT.und, Result.andThen_ok, sizeOf, typeInfo, program]
 by_cases h0 : n * size = 0
 ·simp [h0, Array.range_zero'] at hfill
  simp [Sem.run, hi, hsi, h0, Array.range_zero', hfill, newRow, newObj]
 ·simp [Sem.run, hi, hsi, h0, hn', hz, zeroValue, typeInfo, hfill, newRow, newObj]
theorem W_buildSlice1 {T e bytes n : Nat} {z : Value} {parts : List (Nat × Operand)} {vs : List (Nat × Value)} {out : List Value} [hT : SlT P T e 1 bytes z] (hz : z.cells = #[z]) (hn : n ≤ 16777216) (hv : evP f parts = vs)
  (ho : fillL (fun i => some (i, 1)) (List.replicate n z) vs = some out)
  (h : ∀ w', New w w' e out → AW P all Z K rest (upd f d (.slice (some ⟨w.heap.size, 0, none⟩) n n)) ds w') : AW P all Z K (⟨some d, .buildSlice T n parts.toArray, ty, pos, af, none⟩ :: rest) f ds w := by
 refine AV hv (by omega) ?_ h
 rw [hz, Nat.mul_one, toList_madeCells_one]
 have e : (fun i : Nat => some (i * 1, 1)) = fun i => some (i, 1) := by funext i; rw [Nat.mul_one]
 rw [e]
 exact ho
theorem BH {g : FuncId} {a1 a2 : List Operand} {v1 v2 : List Value} (h1 : evL f a1 = v1) (h2 : evL f a2 = v2) (h : AW P all Z K rest (upd f d (.func (.func g) v1.toArray v2.toArray)) ds w) :
  AW P all Z K (⟨some d, .makeFunc (.func g) a1.toArray a2.toArray, ty, pos, af, none⟩ :: rest) f ds w := by
 refine A5 rfl ?_ h
 rw [evL_map] at h1 h2
 simp [execOp, Instr.makeFunc, ← h1, ← h2]
theorem CQ {g : FuncId} {t : Nat} {xs : List Operand} {ats : Array TypeId} {vs v1 v2 : List Value} {R : Value → World → Prop} {Y : List PanicEntry → World → Prop} [hg : AT P g]
  (hf : f t = .func (.func g) v1.toArray v2.toArray) (hc : FnP P g (v1 ++ vs ++ v2) w R Y) (ha : evL f xs = vs) (h : ∀ v w', R v w' → AW P all Z K rest (upd f d v) ds w') (hz : ∀ ch w', Y ch w' → Z f ds ch w') :
  AW P all Z K (⟨some d, .call ⟨.value (.tmp t), xs.toArray, ats⟩, ty, pos, af, none⟩ :: rest) f ds w := by
 obtain ⟨fn, h1, h2, h3⟩ := hg.out
 have hr : (execOp (ev f) ⟨some d, .call ⟨.value (.tmp t), xs.toArray, ats⟩, ty, pos, af, none⟩).run P w = .ok (.enter g (v1 ++ vs ++ v2).toArray) w := by
  rw [evL_map] at ha
  simp only [execOp, resolve, ev, hf, Deferred.ofValue, Sem.run_bind, Sem.run_pure, Result.andThen_ok, invoke, callFunc, program]
  simp [Sem.run, h1, h2, h3, ← ha]
 unfold AW
 simp only [A7, if_true, By, hr]
 refine Calls.mono hc fun e w' he => ?_
 cases e with
 | returned v => exact h v w' he
 | panicked ch => exact hz ch w' he
 | outgrown => exact he
theorem B5 {g : FuncId} {t : Nat} {xs : List Operand} {ats : Array TypeId} {vs v1 v2 : List Value} {R : Value → World → Prop} [hg : AT P g]
  (hf : f t = .func (.func g) v1.toArray v2.toArray) (hc : Fn P g (v1 ++ vs ++ v2) w R) (ha : evL f xs = vs) (h : ∀ v w', R v w' → AW P all Z K rest (upd f d v) ds w') :
  AW P all Z K (⟨some d, .call ⟨.value (.tmp t), xs.toArray, ats⟩, ty, pos, af, none⟩ :: rest) f ds w :=
 CQ hf hc ha h fun _ _ h => h.elim
theorem Ab {g : FuncId} {fn : Func} {c : Code} {args : List Value} {R : Value → World → Prop} (hf : P.funcs[g]? = some fn) (hb : fn.body = some c) {n : Nat} (hn : fn.ntmps = n) (hl : args.length ≤ n) (hok : CT n false c = true)
  (h : WC P ⟨n, none⟩ c (Cw P fn R fun _ _ => False) (argF args) [] w) : Fn P g args w R := Ar hf hb hn hl hok h
section
variable {fn : Func} {R : Value → World → Prop} {Y : List PanicEntry → World → Prop} {t u v : Nat}
theorem fin_ret0 (hr : fn.results.toList = []) (h : R (.tuple #[]) w) : Cw P fn R Y .ret f [] w := ⟨rfl, by rw [hr]; exact h⟩
theorem A1 (hr : fn.results.toList = []) (h : R (.tuple #[]) w) : Cw P fn R Y .normal f [] w := ⟨rfl, by rw [hr]; exact h⟩
theorem AO (hr : fn.results.toList = [.tmp t]) (h : R (f t) w) : Cw P fn R Y .ret f [] w := ⟨rfl, by rw [hr]; exact h⟩
theorem fin_ret2 (hr : fn.results.toList = [.tmp t, .tmp u]) (h : R (.tuple #[f t, f u]) w) : Cw P fn R Y .ret f [] w := ⟨rfl, by rw [hr]; exact h⟩
theorem fin_ret3 (hr : fn.results.toList = [.tmp t, .tmp u, .tmp v]) (h : R (.tuple #[f t, f u, f v]) w) : Cw P fn R Y .ret f [] w := ⟨rfl, by rw [hr]; exact h⟩
theorem DR {T n b o : Nat} {L : List Value} (hT : AggT P T n) (hl : L.length = n) (hc : Cells w b o L) : (loadVar T ⟨b, o, none⟩).run P w = .ok (.agg L.toArray) w := by
 obtain ⟨⟨dd, h1, h2⟩, i, hi, hs⟩ := hT.out
 have e : (isAgg T).run P w = .ok true w := by
  simp only [isAgg, Sem.run_bind, run_underlying h1, Result.andThen_ok]
  cases dd <;> simp_all [aggD]
 have hr := run_loadCells_list (P := P) w ⟨b, o, none⟩ L (fun j v hj => by rw [Addr.add_lit]; exact hc j v hj)
 rw [hl, ← hs] at hr
 simp only [loadVar, Sem.run_bind, Result.andThen_ok, e, if_true, sizeOf, typeInfo, program]
 simp [Sem.run, hi, hr]
theorem A6 {T n b o : Nat} {L : List Value} [hT : AggT P T n] (hr : fn.results.toList = [.cell t T]) (ha : f t = .pointer (some ⟨b, o, none⟩)) (hl : L.length = n) (hc : Cells w b o L) (h : R (.agg L.toArray) w) : Cw P fn R Y .ret f [] w :=
 ⟨rfl, by rw [hr]; exact ⟨_, _, ha, DR hT hl hc, h⟩⟩
theorem CJ {T n b o : Nat} {L : List Value} [hT : AggT P T n] (hr : fn.results.toList = [.cell t T, .tmp u]) (ha : f t = .pointer (some ⟨b, o, none⟩)) (hl : L.length = n) (hc : Cells w b o L) (h : R (.tuple #[.agg L.toArray, f u]) w) : Cw P fn R Y .ret f [] w :=
 ⟨rfl, by rw [hr]; exact ⟨_, _, ha, DR hT hl hc, h⟩⟩
end
variable {n : Cf} {Q : Ce}
theorem DP {a b : Code} (h : WC P n a (B6 (WC P n b Q) Q) f ds w) : WC P n (.seq a b) Q f ds w := h
theorem C_block {id : Nat} {c : Code} (h : WC P n c (BZ id Q) f ds w) : WC P n (.block id c) Q f ds w := h
theorem C_scope {c : Code} (h : WC P n c (B8 Q) f ds w) : WC P n (.scope c) Q f ds w := h
theorem AA {id : Nat} {ops : List Oper} (h : AW P ops.toArray (fun f ds ch w => Q (.panic ch) f ds w) (Q .normal) ops f ds w) : WC P n (.region id ops.toArray false) Q f ds w := h
theorem C_skip (h : Q .normal f ds w) : WC P n .skip Q f ds w := h
theorem C_label {l : Nat} (h : Q .normal f ds w) : WC P n (.label l) Q f ds w := h
theorem C_ret (h : Q .ret f ds w) : WC P n .ret Q f ds w := h
theorem C_exit {id : Nat} (h : Q (.exit id) f ds w) : WC P n (.exit id) Q f ds w := h
theorem C_cond_t {c : Operand} {x y : Code} (hc : ev f c = .bool true) (h : WC P n x Q f ds w) : WC P n (.cond c x y) Q f ds w := by
 simp only [WC, hc, if_true]; exact h
theorem C_cond_f {c : Operand} {x y : Code} (hc : ev f c = .bool false) (h : WC P n y Q f ds w) : WC P n (.cond c x y) Q f ds w := by
 simp only [WC, hc, Bool.false_eq_true, if_false]; exact h
theorem DH {k : Fr → DS → World → Prop} (h : k f ds w) : B6 k Q .normal f ds w := h
theorem Q_then_ret {k : Fr → DS → World → Prop} (h : Q .ret f ds w) : B6 k Q .ret f ds w := h
theorem Q_then_exit {k : Fr → DS → World → Prop} {i : Nat} (h : Q (.exit i) f ds w) : B6 k Q (.exit i) f ds w := h
theorem Q_then_panic {k : Fr → DS → World → Prop} {c : List PanicEntry} (h : Q (.panic c) f ds w) : B6 k Q (.panic c) f ds w := h
theorem Q_block {id : Nat} (h : Q .normal f ds w) : BZ id Q .normal f ds w := h
theorem Q_block_ret {id : Nat} (h : Q .ret f ds w) : BZ id Q .ret f ds w := h
theorem Q_block_panic {id : Nat} {c : List PanicEntry} (h : Q (.panic c) f ds w) : BZ id Q (.panic c) f ds w := h
theorem Q_block_here {id : Nat} (h : Q .normal f ds w) : BZ id Q (.exit id) f ds w := by simp only [BZ, if_true]; exact h
theorem Q_block_on {id i : Nat} (hi : Nat.beq i id = false) (h : Q (.exit i) f ds w) : BZ id Q (.exit i) f ds w := by
 have : ¬ i = id := fun e => by subst e; simp at hi
 simp only [BZ, if_neg this]; exact h
theorem BJ {α : Type} (L : α → List (Nat × Value)) (I : α → World → Prop) (μ : α → Nat) (x0 : α) {c : Code} (h0 : agr (L x0) f) (hI : I x0 w)
  (hr : ∀ x w f', I x w → WC P n c (B6 (fun f'' ds'' w'' => ∃ y, (ds'' = ds ∧ agr (L y) f'' ∧ I y w'') ∧ μ y < μ x) Q) (ov (L x) f') ds w) : WC P n (.loop c) Q f ds w := by
 refine ⟨α, fun x f ds' w => ds' = ds ∧ agr (L x) f ∧ I x w, μ, x0, ⟨rfl, h0, hI⟩, ?_⟩
 rintro x f ds' w ⟨rfl, h1, h2⟩
 have h := hr x w f h2
 rw [ov_of_agr h1] at h
 exact h
section
variable {x : Operand}
theorem AF {k : IntKind} {a : Int} (hx : ev f x = .int k a) (h : AW P all Z K rest (upd f d (.int k a)) ds w) : AW P all Z K (⟨some d, .move x, ty, pos, af, none⟩ :: rest) f ds w := Az (by rw [hx]; exact h)
theorem Ae {a : Option Addr} {l c : Nat} (hx : ev f x = .slice a l c) (h : AW P all Z K rest (upd f d (.slice a l c)) ds w) : AW P all Z K (⟨some d, .move x, ty, pos, af, none⟩ :: rest) f ds w := Az (by rw [hx]; exact h)
theorem AQ {a : Option Addr} (hx : ev f x = .pointer a) (h : AW P all Z K rest (upd f d (.pointer a)) ds w) : AW P all Z K (⟨some d, .move x, ty, pos, af, none⟩ :: rest) f ds w := Az (by rw [hx]; exact h)
theorem AB {b : Bool} (hx : ev f x = .bool b) (h : AW P all Z K rest (upd f d (.bool b)) ds w) : AW P all Z K (⟨some d, .move x, ty, pos, af, none⟩ :: rest) f ds w := Az (by rw [hx]; exact h)
theorem AU {s : ByteArray} (hx : ev f x = .string s) (h : AW P all Z K rest (upd f d (.string s)) ds w) : AW P all Z K (⟨some d, .move x, ty, pos, af, none⟩ :: rest) f ds w := Az (by rw [hx]; exact h)
theorem Bp {c : Array Value} (hx : ev f x = .tuple c) (h : AW P all Z K rest (upd f d (.tuple c)) ds w) : AW P all Z K (⟨some d, .move x, ty, pos, af, none⟩ :: rest) f ds w := Az (by rw [hx]; exact h)
theorem Ct {g : Go.Fn} {a b : Array Value} (hx : ev f x = .func g a b) (h : AW P all Z K rest (upd f d (.func g a b)) ds w) : AW P all Z K (⟨some d, .move x, ty, pos, af, none⟩ :: rest) f ds w := Az (by rw [hx]; exact h)
theorem M_map {r : Option Nat} (hx : ev f x = .map r) (h : AW P all Z K rest (upd f d (.map r)) ds w) : AW P all Z K (⟨some d, .move x, ty, pos, af, none⟩ :: rest) f ds w := Az (by rw [hx]; exact h)
theorem AC (h : AW P all Z K (⟨some d, .move x, ty, pos, af, none⟩ :: rest) f ds w) : AW P all Z K (⟨some d, .assign x, ty, pos, af, none⟩ :: rest) f ds w := h
theorem AK {c y : Operand} (hc : ev f c = .bool true) (h : AW P all Z K (⟨some d, .move x, ty, pos, af, none⟩ :: rest) f ds w) : AW P all Z K (⟨some d, .pick c x y, ty, pos, af, none⟩ :: rest) f ds w :=
 W_pick_t hc (by simpa [AW, A7, By, execOp, putF] using h)
theorem AP {c y : Operand} (hc : ev f c = .bool false) (h : AW P all Z K (⟨some d, .move x, ty, pos, af, none⟩ :: rest) f ds w) : AW P all Z K (⟨some d, .pick c y x, ty, pos, af, none⟩ :: rest) f ds w :=
 W_pick_f hc (by simpa [AW, A7, By, execOp, putF] using h)
end
end Go.Proofs.YtfcgdbmoncnibaaGreatDoor
