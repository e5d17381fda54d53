/- A rule for a statement whose order is drawn: one order serves all, where what only reads comes first and what acts comes in a chain. Conditions: none. -/
import Derived.Test.YteonolnfgppagaaDoorOps2
namespace Go.Proofs.YteonolnfgppagaaDoor
open Go.RowKit
attribute [local semireducible] WC WOps thenQ blockQ scopeQ finQ finD stepP

variable {P : Program} {ops : Array Oper} {n : Nat} {rr : Option Nat} {Q : Exit → Act → World → Prop} {S : World → Prop}

/-- in this round the operations do what they always do -/
def SemOk (rr : Option Nat) (ops : Array Oper) : Prop := ∀ (j : Nat) (o : Oper), ops[j]? = some o → ∀ ρ, Oper.semAt rr ρ o = execOp ρ o

/-- operation o leaves v in its slot, in every world of S, and leaves that world as it is -/
def YR (P : Program) (ops : Array Oper) (S : World → Prop) (o : Oper) (v : Value) (a : Act) : Prop :=
  (Region.wanted o (yielded ops a.tmps) = true ∧ ∀ w, S w → (execOp a.eval o).run P w = .ok (.value v) w ∨ ((execOp a.eval o).run P w = .ok .skip w ∧ v = undef) ∨
    (∃ g args w1, (execOp a.eval o).run P w = .ok (.enter g args) w1 ∧ Calls P g args w1 (fun e w' => e = .returned v ∧ w' = w)) ∨
    ∃ l g tmps assign body w1, (execOp a.eval o).run P w = .ok (.round l g tmps assign body) w1 ∧ RoundIn Fence.wide 0 P l g tmps assign body w1 (fun e w' => e = .returned v ∧ w' = w)) ∨
  (Region.wanted o (yielded ops a.tmps) = false ∧ v = undef)

theorem YR.same {o : Oper} {v : Value} {a a' : Act} (hy : YR P ops S o v a) (he : execOp a'.eval o = execOp a.eval o)
    (hw : Region.wanted o (yielded ops a'.tmps) = Region.wanted o (yielded ops a.tmps)) : YR P ops S o v a' := by
  unfold YR at *
  rw [he, hw]
  exact hy

theorem rnd_depth {rr : Option Nat} : (rnd rr).depth.isSome = true → 1 ≤ 0 := fun hh => by simp [rnd, Fence.wide] at hh

theorem YR.wpOp {i : Nat} {o : Oper} {v : Value} {a : Act} {w : World} (hso : SemOk rr ops) (hi : ops[i]? = some o) (hy : YR P ops S o v a) (hS : S w) {K : Act → World → Prop} (h : K (a.put o.dst v) w) : wpOpIn (rnd rr) 0 P ops Q i K a w := by
  unfold Go.wpOpIn
  simp only [hi]
  rcases hy with ⟨hw, hv⟩ | ⟨hw, rfl⟩
  · simp only [hw, if_true]
    refine ⟨fun _ _ => trivial, ?_⟩
    have hs : (rnd rr).round = rr := rfl
    rw [hs, hso i o hi]
    rcases hv w hS with hr | ⟨hr, rfl⟩ | ⟨g, args, w1, hr, hc⟩ | ⟨l, g, tmps, assign, body, w1, hr, hc⟩
    · rw [hr]; exact h
    · rw [hr]; exact h
    · rw [hr]
      refine ⟨rnd_depth, ?_⟩
      have hc : CallsIn Fence.wide (0 - 1) P g args w1 _ := callsIn_wide.2 hc
      refine CallsIn.mono (F := rnd rr) hc fun e w' he => ?_
      obtain ⟨rfl, rfl⟩ := he
      exact h
    · rw [hr]
      have hc : RoundIn (rnd rr) (0 - 1) P l g tmps assign body w1 _ := hc
      refine ⟨rnd_depth, RoundIn.mono hc fun e w' he => ?_⟩
      obtain ⟨rfl, rfl⟩ := he
      exact h
  · simp only [hw, Bool.false_eq_true, if_false]; exact ⟨fun _ _ => trivial, h⟩

/-- an operation apart from oi -/
theorem wpOp_later {j : Nat} {oi oj : Oper} {v : Value} (hso : SemOk rr ops) (hj : ops[j]? = some oj) (hap : oi.apart ops oj = true)
    (hsi : ∀ cs b, oi.op ≠ .select cs b) (hsj : ∀ cs b, oj.op ≠ .select cs b)
    (hQ : ∀ c a w, Q (.panic c) (a.put oi.dst v) w → Q (.panic c) a w) {K : Act → World → Prop} {a : Act} {w : World}
    (hy : YR P ops S oi v a) (h : wpOpIn (rnd rr) 0 P ops Q j K (a.put oi.dst v) w) :
    wpOpIn (rnd rr) 0 P ops Q j (fun a' w' => YR P ops S oi v a' ∧ K (a'.put oi.dst v) w') a w := by
  obtain ⟨h1, h2, h3⟩ := Oper.apart_spec hap
  have keep : ∀ (b : Act), YR P ops S oi v b → ∀ u, YR P ops S oi v (b.put oj.dst u) := fun b hb u => hb.same (execOp_put oi hsi b oj.dst u h3) (wanted_put oi b oj.dst u h3)
  have swap : ∀ (b : Act) (u : Value) w', YR P ops S oi v b → K ((b.put oi.dst v).put oj.dst u) w' → YR P ops S oi v (b.put oj.dst u) ∧ K ((b.put oj.dst u).put oi.dst v) w' := fun b u w' hb hk =>
    ⟨keep b hb u, by rw [← Act.put_comm b v u h2]; exact hk⟩
  have hw1 := wanted_put (ops := ops) oj a oi.dst v h1
  have he1 := execOp_put (ops := ops) oj hsj a oi.dst v h1
  unfold wpOpIn at h ⊢
  simp only [hj, hw1] at h ⊢
  by_cases hw : Region.wanted oj (yielded ops a.tmps) = true
  · simp only [hw, if_true] at h ⊢
    refine ⟨fun _ _ => trivial, ?_⟩
    have h := h.2
    have hs : (rnd rr).round = rr := rfl
    rw [hs, hso j oj hj] at h ⊢
    rw [he1] at h
    revert h
    generalize (execOp a.eval oj).run P w = r
    intro h
    cases r with
    | halt x w' => cases x <;> first | exact h.elim | exact hQ _ _ _ h
    | ok m w' =>
      cases m with
      | value u => exact swap a u w' hy h
      | skip => exact swap a undef w' hy h
      | defer d =>
        have hd : YR P ops S oi v { a with defers := d :: a.defers } := hy.same rfl rfl
        refine swap _ undef w' hd ?_
        rw [← Act.put_defers]
        exact h
      | enter g args =>
        refine ⟨rnd_depth, CallsIn.mono h.2 fun e w'' he => ?_⟩
        cases e with
        | returned u => exact swap a u w'' hy he
        | panicked c => exact hQ _ _ _ he
        | outgrown => exact he
      | row r args => exact ⟨h.1, RowsIn.mono h.2 (fun u w'' he => swap a u w'' hy he)⟩
      | round l g tmps assign body =>
        refine ⟨rnd_depth, RoundIn.mono h.2 fun e w'' he => ?_⟩
        cases e with
        | returned u => exact swap a u w'' hy he
        | panicked c => exact hQ _ _ _ he
        | outgrown => exact he
      | _ => exact h.elim
  · simp only [hw] at h ⊢
    exact ⟨fun _ _ => trivial, swap a undef w hy h.2⟩

/-- whatever order is picked, every world on the way is one of S -/
def wpT (rr : Option Nat) (P : Program) (ops : Array Oper) (Q : Exit → Act → World → Prop) (S : World → Prop) : Nat → Array Bool → Act → World → Prop
  | 0, listed, a, w => Region.ready .any ops listed = [] ∧ Q .normal a w
  | fuel + 1, listed, a, w => (Region.ready .any ops listed = [] → Q .normal a w) ∧
    ∀ i ∈ Region.ready .any ops listed, wpOpIn (rnd rr) 0 P ops Q i (fun a' w' => S w' ∧ wpT rr P ops Q S fuel (listed.setIfInBounds i true) a' w') a w

theorem wpT_any : ∀ (fuel : Nat) (listed : Array Bool) (a : Act) (w : World), wpT rr P ops Q S fuel listed a w → wpAnyIn (rnd rr) 0 P .any ops Q fuel listed a w
  | 0, _, _, _, h => h
  | fuel + 1, _, _, _, h => ⟨h.1, fun i hi => wpOpIn_mono (fun a' w' h' => wpT_any fuel _ a' w' h'.2) (h.2 i hi)⟩
theorem wpT_mono {S' : World → Prop} (hs : ∀ w, S' w → S w) : ∀ (fuel : Nat) (listed : Array Bool) (a : Act) (w : World), wpT rr P ops Q S' fuel listed a w → wpT rr P ops Q S fuel listed a w
  | 0, _, _, _, h => h
  | fuel + 1, _, _, _, h => ⟨h.1, fun i hi => wpOpIn_mono (fun a' w' h' => ⟨hs w' h'.1, wpT_mono hs fuel _ a' w' h'.2⟩) (h.2 i hi)⟩

theorem wpT_first {i : Nat} {oi : Oper} {v : Value} (hso : SemOk rr ops) (hi : ops[i]? = some oi) (hsel : ∀ (j : Nat) (o : Oper) cs b, ops[j]? = some o → o.op ≠ .select cs b)
    (hQ : ∀ c a w, Q (.panic c) (a.put oi.dst v) w → Q (.panic c) a w) : ∀ (fuel : Nat) (listed : Array Bool) (a : Act) (w : World),
      (∀ j oj, ops[j]? = some oj → j ≠ i → listed.getD j true = false → (∀ e ∈ oj.after, Region.binds .any e = true → e.on ≠ i) → oi.apart ops oj = true) →
      i ∈ Region.ready .any ops listed → YR P ops S oi v a → S w →
      wpT rr P ops Q S fuel (listed.setIfInBounds i true) (a.put oi.dst v) w → wpT rr P ops Q S (fuel + 1) listed a w := by
  intro fuel
  induction fuel with
  | zero =>
    intro listed a w _ hr hy hS H
    refine ⟨fun h => (by rw [h] at hr; cases hr), fun j hj => ?_⟩
    by_cases hji : j = i
    · subst hji; exact hy.wpOp hso hi hS ⟨hS, H⟩
    · have := ready_mono hj hji
      rw [H.1] at this
      cases this
  | succ fuel ih =>
    intro listed a w hfree hr hy hS H
    refine ⟨fun h => (by rw [h] at hr; cases hr), fun j hj => ?_⟩
    by_cases hji : j = i
    · subst hji; exact hy.wpOp hso hi hS ⟨hS, H⟩
    · have h1 := H.2 j (ready_mono hj hji)
      obtain ⟨hjun, oj, hoj, hall⟩ := mem_ready.1 hj
      have hiun := (mem_ready.1 hr).1
      have hnot : ∀ e ∈ oj.after, Region.binds .any e = true → e.on ≠ i := by
        intro e he hb heq
        have h2 := hall e he hb
        rw [heq] at h2
        by_cases hlt : i < listed.size
        · simp [hlt] at hiun h2; rw [hiun] at h2; cases h2
        · simp [Array.getElem?_eq_none (Nat.le_of_not_lt hlt)] at h2
      have h2 := wpOp_later hso hoj (hfree j oj hoj hji hjun hnot) (fun cs b => hsel i oi cs b hi) (fun cs b => hsel j oj cs b hoj) hQ hy h1
      refine wpOpIn_mono (fun a' w' h3 => ⟨h3.2.1, ?_⟩) h2
      refine ih (listed.setIfInBounds j true) a' w' ?_ (ready_mono hr (Ne.symm hji)) h3.1 h3.2.1 ?_
      · intro k ok hk hki hun hno
        refine hfree k ok hk hki ?_ hno
        by_cases hjk : j = k
        · subst hjk; exact hjun
        · rw [getD_set_ne true hjk] at hun; exact hun
      · rw [Array.setIfInBounds_comm _ _ hji]
        exact h3.2.2

/-- the orders, as a tree: what only reads goes first; of what acts, each that may come next -/
inductive DT where
  | done
  | stop
  | read (i : Nat) (t : DT)
  | alt (i : Nat) (t r : DT)
def DT.heads : DT → List Nat
  | .alt i _ r => i :: r.heads
  | _ => []
def canonOK (ops : Array Oper) : DT → Nat → Array Bool → Bool → Bool
  | .done, n, listed, b => !b && Nat.beq n 0 && (Region.ready .any ops listed).isEmpty
  | .stop, _, _, b => b
  | .read _ _, 0, _, _ => false
  | .read i t, n + 1, listed, b => !b && (Region.ready .any ops listed).contains i && Region.free .any ops listed i && canonOK ops t n (listed.setIfInBounds i true) false
  | .alt _ _ _, 0, _, _ => false
  | .alt i t r, n + 1, listed, b => (b || (Region.ready .any ops listed == (DT.alt i t r).heads)) && canonOK ops t n (listed.setIfInBounds i true) false && canonOK ops r (n + 1) listed true

/-- the walk in these orders -/
def DOps (P : Program) (ops : Array Oper) (Z : Fr → DS → List PanicEntry → World → Prop) (K : Fr → DS → World → Prop) : DT → (World → Prop) → Fr → DS → World → Prop
  | .done, _, f, ds, w => K f ds w
  | .stop, _, _, _, _ => True
  | .read i r, S, f, ds, w => ∃ o d v, ops[i]? = some o ∧ o.dst = some d ∧
      (∀ W, S W → WOps P ops (fun _ _ _ _ => False) (fun f' ds' w' => f' = upd f d v ∧ ds' = ds ∧ w' = W) [o] f ds W) ∧ DOps P ops Z K r S (upd f d v) ds w
  | .alt i t r, S, f, ds, w => (∃ o, ops[i]? = some o ∧ WOps P ops Z (fun f' ds' w' => ∃ S' : World → Prop, (∀ W, S' W → S W) ∧ S' w' ∧ DOps P ops Z K t S' f' ds' w') [o] f ds w) ∧ DOps P ops Z K r S f ds w

theorem upd_inj {f : Fr} {d : Nat} {u v : Value} (h : upd f d u = upd f d v) : u = v := by
  have := congrFun h d
  simpa [upd] using this

theorem YR_of {o : Oper} {d : Nat} {v : Value} {a : Act} (hd : o.dst = some d) {w0 : World} (hS0 : S w0)
    (h : ∀ W, S W → WOps P ops (fun _ _ _ _ => False) (fun f' ds' w' => f' = upd (toFr a) d v ∧ ds' = a.defers ∧ w' = W) [o] (toFr a) a.defers W) : YR P ops S o v a := by
  unfold YR
  rw [wanted_toFr]
  by_cases hw : wantedF ops (toFr a) o.guard = true
  · refine .inl ⟨hw, fun w hw' => ?_⟩
    have h1 := h w hw'
    unfold WOps at h1
    rw [if_pos hw] at h1
    unfold stepP at h1
    rw [ev_toFr]
    revert h1
    generalize (execOp (ev (toFr a)) o).run P w = r
    intro h1
    cases r with
    | halt x w' => cases x <;> exact h1.elim
    | ok m w' =>
      cases m with
      | value u =>
        obtain ⟨e1, _, e3⟩ := h1
        simp only [hd, putF] at e1
        rw [upd_inj e1, e3]
        exact .inl rfl
      | skip =>
        obtain ⟨e1, _, e3⟩ := h1
        simp only [hd, putF] at e1
        rw [← upd_inj e1, e3]
        exact .inr (.inl ⟨rfl, rfl⟩)
      | defer d' =>
        obtain ⟨_, e2, _⟩ := h1
        exact absurd e2 (by simp)
      | enter g args =>
        refine .inr (.inr (.inl ⟨g, args, w', rfl, Calls.mono h1 fun e w'' he => ?_⟩))
        cases e with
        | returned u =>
          obtain ⟨e1, _, e3⟩ := he
          simp only [hd, putF] at e1
          exact ⟨by rw [upd_inj e1], e3⟩
        | panicked c => exact he.elim
        | outgrown => exact he.elim
      | round l g tmps assign body =>
        refine .inr (.inr (.inr ⟨l, g, tmps, assign, body, w', rfl, RoundIn.mono h1 fun e w'' he => ?_⟩))
        cases e with
        | returned u =>
          obtain ⟨e1, _, e3⟩ := he
          simp only [hd, putF] at e1
          exact ⟨by rw [upd_inj e1], e3⟩
        | panicked c => exact he.elim
        | outgrown => exact he.elim
      | _ => exact h1.elim
  · have hw' : wantedF ops (toFr a) o.guard = false := by simpa using hw
    refine .inr ⟨hw', ?_⟩
    have h1 := h w0 hS0
    unfold WOps at h1
    rw [if_neg hw] at h1
    obtain ⟨e1, _⟩ := h1
    simp only [hd, putF] at e1
    exact (upd_inj e1).symm

theorem wpOp_of_WOps {n : Nat} {Q : Post} {K : Fr → DS → World → Prop} {o : Oper} {i : Nat} (hi : ops[i]? = some o) {a : Act} {w : World} (hn : a.tmps.size = n) (hok : opOk n rr.isSome o = true)
    {K' : Act → World → Prop} (hK : ∀ a' w', a'.tmps.size = n → K (toFr a') a'.defers w' → K' a' w')
    (h : WOps P ops (fun f ds ch w => Q (.panic ch) f ds w) K [o] (toFr a) a.defers w) : wpOpIn (rnd rr) 0 P ops (liftQ n Q) i K' a w := by
  have hd : dOk n o.dst = true := by have := hok; simp only [opOk, Bool.and_eq_true] at this; exact this.1
  have next := next_of (n := n) (o := o) (a := a) (K := K) (K' := K') hn hd hK
  unfold wpOpIn
  simp only [hi, wanted_toFr]
  unfold WOps at h
  by_cases hw : wantedF ops (toFr a) o.guard = true
  · simp only [hw, if_true] at h ⊢
    exact uponIn_of (r := rr) hn hok next h
  · simp only [hw] at h ⊢
    exact ⟨fun _ _ => trivial, next undef a.defers w h⟩

theorem semOk_of {n : Nat} (hok : ops.toList.all (opOk n rr.isSome) = true) : SemOk rr ops := fun j o ho ρ =>
  semAt_ok (n := n) (List.all_eq_true.1 hok o (by simpa using Array.mem_of_getElem? ho)) ρ

theorem D_sound {n : Nat} {Q : Post} (hsel : Region.noSelect ops = true) (hok : ops.toList.all (opOk n rr.isSome) = true) (hQ : ∀ c f f' ds w, Q (.panic c) f ds w → Q (.panic c) f' ds w) :
    ∀ (order : DT) (fuel : Nat) (listed : Array Bool) (b : Bool) (S : World → Prop) (a : Act) (w : World), canonOK ops order fuel listed b = true → a.tmps.size = n → S w →
      DOps P ops (fun f ds ch w => Q (.panic ch) f ds w) (Q .normal) order S (toFr a) a.defers w →
      (b = false → wpT rr P ops (liftQ n Q) S fuel listed a w) ∧
      (∀ k, fuel = k + 1 → ∀ j ∈ order.heads, wpOpIn (rnd rr) 0 P ops (liftQ n Q) j (fun a' w' => S w' ∧ wpT rr P ops (liftQ n Q) S k (listed.setIfInBounds j true) a' w') a w)
  | .done, fuel, listed, b, S, a, w, hc, hn, hS, h => by
    simp only [canonOK, Bool.and_eq_true, List.isEmpty_iff, Bool.not_eq_true'] at hc
    obtain ⟨⟨rfl, h2⟩, h3⟩ := hc
    obtain rfl := Nat.eq_of_beq_eq_true h2
    exact ⟨fun _ => ⟨h3, hn, h⟩, fun _ _ j hj => by simp [DT.heads] at hj⟩
  | .stop, fuel, listed, b, S, a, w, hc, hn, hS, h => by
    simp only [canonOK] at hc
    subst hc
    exact ⟨(fun h => by cases h), fun _ _ j hj => by simp [DT.heads] at hj⟩
  | .read i r, 0, listed, b, S, a, w, hc, hn, hS, h => by simp [canonOK] at hc
  | .read i r, fuel + 1, listed, b, S, a, w, hc, hn, hS, h => by
    simp only [canonOK, Bool.and_eq_true, Bool.not_eq_true'] at hc
    obtain ⟨⟨⟨h0, h1⟩, h2⟩, h3⟩ := hc
    obtain ⟨o, d, v, ho, hd, hy, hk⟩ := h
    have hdo : opOk n rr.isSome o = true := List.all_eq_true.1 hok o (by simpa using Array.mem_of_getElem? ho)
    have hdn : dOk n o.dst = true := by have := hdo; simp only [opOk, Bool.and_eq_true] at this; exact this.1
    have hlt : d < a.tmps.size := by rw [hd] at hdn; simpa [dOk, Nat.blt_eq, hn] using hdn
    have hpanic : ∀ c (a' : Act) (w' : World), liftQ n Q (.panic c) (a'.put o.dst v) w' → liftQ n Q (.panic c) a' w' := fun c a' w' hq =>
      ⟨by simpa [size_put] using hq.1, hQ c _ _ _ _ (by have := hq.2; rw [defers_put] at this; exact this)⟩
    refine ⟨fun _ => wpT_first (semOk_of hok) ho (Region.noSelect_spec hsel) hpanic fuel listed a w (Region.free_spec ho h2) (by simpa using h1) (YR_of hd hS hy) hS ?_, fun _ _ j hj => by simp [DT.heads] at hj⟩
    refine (D_sound hsel hok hQ r fuel _ false S (a.put o.dst v) w h3 (by rw [size_put]; exact hn) hS ?_).1 rfl
    rw [defers_put, hd, toFr_put v hlt]
    exact hk
  | .alt i t r, 0, listed, b, S, a, w, hc, hn, hS, h => by simp [canonOK] at hc
  | .alt i t r, fuel + 1, listed, b, S, a, w, hc, hn, hS, h => by
    simp only [canonOK, Bool.and_eq_true] at hc
    obtain ⟨⟨h1, h2⟩, h3⟩ := hc
    obtain ⟨⟨o, ho, hk⟩, hrest⟩ := h
    have hdn : opOk n rr.isSome o = true := List.all_eq_true.1 hok o (by simpa using Array.mem_of_getElem? ho)
    have hall : ∀ j ∈ (DT.alt i t r).heads, wpOpIn (rnd rr) 0 P ops (liftQ n Q) j (fun a' w' => S w' ∧ wpT rr P ops (liftQ n Q) S fuel (listed.setIfInBounds j true) a' w') a w := by
      intro j hj
      simp only [DT.heads, List.mem_cons] at hj
      rcases hj with rfl | hj
      · refine wpOp_of_WOps ho hn hdn ?_ hk
        rintro a' w' hn' ⟨S', hs, hS', hd⟩
        exact ⟨hs w' hS', wpT_mono hs _ _ _ _ ((D_sound hsel hok hQ t fuel _ false S' a' w' h2 hn' hS' hd).1 rfl)⟩
      · exact (D_sound hsel hok hQ r (fuel + 1) listed true S a w h3 hn hS hrest).2 fuel rfl j hj
    refine ⟨fun hb => ?_, fun k hk j hj => ?_⟩
    · subst hb
      simp only [Bool.false_or, beq_iff_eq] at h1
      exact ⟨fun h0 => (by rw [h0] at h1; simp [DT.heads] at h1), fun j hj => hall j (by rw [← h1]; exact hj)⟩
    · obtain rfl : fuel = k := by omega
      exact hall j hj

/-- a region whose order is drawn -/
theorem C_drawS {n : Cf} {Q : Post} {id : Nat} {l : List Oper} {f : Fr} {ds : DS} {w : World} (order : DT) (S : World → Prop) (hm : P.follows .mixedOrders = true)
    (hc : (Region.noSelect l.toArray && (l.all (opOk n.n n.r.isSome)) && canonOK l.toArray order l.length (Array.replicate l.length false) false) = true)
    (hQ : ∀ c f f' ds w, Q (.panic c) f ds w → Q (.panic c) f' ds w) (hS : S { w with drawn := w.drawn + 1 })
    (h : DOps P l.toArray (fun f ds ch w => Q (.panic ch) f ds w) (Q .normal) order S f ds { w with drawn := w.drawn + 1 }) : WC P n (.region id l.toArray true) Q f ds w := by
  simp only [Bool.and_eq_true] at hc
  obtain ⟨⟨h1, h2⟩, h3⟩ := hc
  rintro a hn rfl rfl
  refine wpIn_region_any hm (wpT_any (S := S) _ _ _ _ ?_)
  have := (D_sound (P := P) (rr := n.r) (ops := l.toArray) h1 (by simpa using h2) hQ order _ _ false S a _ h3 hn hS h).1 rfl
  simpa using this

section
variable {Z : Fr → DS → List PanicEntry → World → Prop} {K : Fr → DS → World → Prop} {r t : DT} {f : Fr} {ds : DS} {w : World} {i d : Nat} {o : Oper} {v : Value}
theorem D_nil (h : K f ds w) : DOps P ops Z K .done S f ds w := h
theorem D_R (ho : ops[i]? = some o) (hd : o.dst = some d) (hy : ∀ W, S W → WOps P ops (fun _ _ _ _ => False) (fun f' ds' w' => f' = upd f d v ∧ ds' = ds ∧ w' = W) [o] f ds W)
    (h : DOps P ops Z K r S (upd f d v) ds w) : DOps P ops Z K (.read i r) S f ds w := ⟨o, d, v, ho, hd, hy, h⟩
theorem D_E (ho : ops[i]? = some o) (h : WOps P ops Z (fun f' ds' w' => ∃ S' : World → Prop, (∀ W, S' W → S W) ∧ S' w' ∧ DOps P ops Z K t S' f' ds' w') [o] f ds w) :
    DOps P ops Z K (.alt i t .stop) S f ds w := ⟨⟨o, ho, h⟩, trivial⟩
/-- one of several -/
theorem D_A (ho : ops[i]? = some o) (h : WOps P ops Z (fun f' ds' w' => ∃ S' : World → Prop, (∀ W, S' W → S W) ∧ S' w' ∧ DOps P ops Z K t S' f' ds' w') [o] f ds w) (h2 : DOps P ops Z K r S f ds w) :
    DOps P ops Z K (.alt i t r) S f ds w := ⟨⟨o, ho, h⟩, h2⟩
/-- what yields the same in every world -/
theorem D_val (ho : ops[i]? = some o) (hd : o.dst = some d) (hg : o.guard = none) (hr : ∀ W, (execOp (ev f) o).run P W = .ok (.value v) W) (h : DOps P ops Z K r S (upd f d v) ds w) : DOps P ops Z K (.read i r) S f ds w :=
  D_R ho hd (fun W _ => W_val hg (hr W) ⟨by rw [hd]; rfl, rfl, rfl⟩) h
theorem D_valG (ho : ops[i]? = some o) (hd : o.dst = some d) (hg : wantedF ops f o.guard = true) (hr : ∀ W, (execOp (ev f) o).run P W = .ok (.value v) W) (h : DOps P ops Z K r S (upd f d v) ds w) : DOps P ops Z K (.read i r) S f ds w := by
  refine D_R ho hd (fun W _ => ?_) h
  unfold WOps
  rw [if_pos hg]
  unfold stepP
  rw [hr W]
  exact ⟨by rw [hd]; rfl, rfl, rfl⟩
theorem D_skip {j : Nat} {want : Bool} (ho : ops[i]? = some o) (hd : o.dst = some d) (hg : o.guard = some (j, want)) (hv : guardVal ops f j = some (!want)) (h : DOps P ops Z K r S (upd f d undef) ds w) : DOps P ops Z K (.read i r) S f ds w := by
  refine D_R ho hd (fun W _ => ?_) h
  unfold WOps
  have e : wantedF ops f o.guard = false := by rw [hg]; simp only [wantedF, hv]; cases want <;> rfl
  rw [e]
  exact ⟨by rw [hd]; rfl, rfl, rfl⟩

section cmp
variable {xt yt ty : TypeId} {x y : Operand} {k : IntKind} {a b : Int} {pos : String} {af : Array Edge} {g : Option (Nat × Bool)}
theorem D_lss (ho : ops[i]? = some ⟨some d, .binOp .lss xt x y yt, ty, pos, af, g⟩) (hg : wantedF ops f g = true) (hx : ev f x = .int k a) (hy : ev f y = .int k b)
    (ht : a < b → DOps P ops Z K r S (upd f d (.bool true)) ds w) (hf : b ≤ a → DOps P ops Z K r S (upd f d (.bool false)) ds w) : DOps P ops Z K (.read i r) S f ds w := by
  by_cases hc : a < b
  · exact D_valG ho rfl hg (fun W => by simp [execOp, hx, hy, eqGuard, binOp, Op.intCmp, hc]) (ht hc)
  · exact D_valG ho rfl hg (fun W => by simp [execOp, hx, hy, eqGuard, binOp, Op.intCmp, hc]) (hf (by omega))
theorem D_leq (ho : ops[i]? = some ⟨some d, .binOp .leq xt x y yt, ty, pos, af, g⟩) (hg : wantedF ops f g = true) (hx : ev f x = .int k a) (hy : ev f y = .int k b)
    (ht : a ≤ b → DOps P ops Z K r S (upd f d (.bool true)) ds w) (hf : b < a → DOps P ops Z K r S (upd f d (.bool false)) ds w) : DOps P ops Z K (.read i r) S f ds w := by
  by_cases hc : a ≤ b
  · exact D_valG ho rfl hg (fun W => by simp [execOp, hx, hy, eqGuard, binOp, Op.intCmp, hc]) (ht hc)
  · exact D_valG ho rfl hg (fun W => by simp [execOp, hx, hy, eqGuard, binOp, Op.intCmp, hc]) (hf (by omega))
theorem D_gtr (ho : ops[i]? = some ⟨some d, .binOp .gtr xt x y yt, ty, pos, af, g⟩) (hg : wantedF ops f g = true) (hx : ev f x = .int k a) (hy : ev f y = .int k b)
    (ht : b < a → DOps P ops Z K r S (upd f d (.bool true)) ds w) (hf : a ≤ b → DOps P ops Z K r S (upd f d (.bool false)) ds w) : DOps P ops Z K (.read i r) S f ds w := by
  by_cases hc : b < a
  · exact D_valG ho rfl hg (fun W => by simp [execOp, hx, hy, eqGuard, binOp, Op.intCmp, hc]) (ht hc)
  · exact D_valG ho rfl hg (fun W => by simp [execOp, hx, hy, eqGuard, binOp, Op.intCmp, hc]) (hf (by omega))
theorem D_geq (ho : ops[i]? = some ⟨some d, .binOp .geq xt x y yt, ty, pos, af, g⟩) (hg : wantedF ops f g = true) (hx : ev f x = .int k a) (hy : ev f y = .int k b)
    (ht : b ≤ a → DOps P ops Z K r S (upd f d (.bool true)) ds w) (hf : a < b → DOps P ops Z K r S (upd f d (.bool false)) ds w) : DOps P ops Z K (.read i r) S f ds w := by
  by_cases hc : b ≤ a
  · exact D_valG ho rfl hg (fun W => by simp [execOp, hx, hy, eqGuard, binOp, Op.intCmp, hc]) (ht hc)
  · exact D_valG ho rfl hg (fun W => by simp [execOp, hx, hy, eqGuard, binOp, Op.intCmp, hc]) (hf (by omega))
theorem D_eql (ho : ops[i]? = some ⟨some d, .binOp .eql xt x y yt, ty, pos, af, g⟩) (hg : wantedF ops f g = true) (hx : ev f x = .int k a) (hy : ev f y = .int k b)
    (ht : a = b → DOps P ops Z K r S (upd f d (.bool true)) ds w) (hf : a ≠ b → DOps P ops Z K r S (upd f d (.bool false)) ds w) : DOps P ops Z K (.read i r) S f ds w := by
  by_cases hc : a = b
  · exact D_valG ho rfl hg (fun W => by simp [execOp, hx, hy, eqGuard, binOp, Op.intCmp, hc]) (ht hc)
  · exact D_valG ho rfl hg (fun W => by simp [execOp, hx, hy, eqGuard, binOp, Op.intCmp, hc]) (hf hc)
theorem D_neq (ho : ops[i]? = some ⟨some d, .binOp .neq xt x y yt, ty, pos, af, g⟩) (hg : wantedF ops f g = true) (hx : ev f x = .int k a) (hy : ev f y = .int k b)
    (ht : a ≠ b → DOps P ops Z K r S (upd f d (.bool true)) ds w) (hf : a = b → DOps P ops Z K r S (upd f d (.bool false)) ds w) : DOps P ops Z K (.read i r) S f ds w := by
  by_cases hc : a = b
  · exact D_valG ho rfl hg (fun W => by simp [execOp, hx, hy, eqGuard, binOp, Op.intCmp, hc]) (hf hc)
  · exact D_valG ho rfl hg (fun W => by simp [execOp, hx, hy, eqGuard, binOp, Op.intCmp, hc]) (ht hc)
theorem D_seql {s t : List UInt8} (ho : ops[i]? = some ⟨some d, .binOp .eql xt x y yt, ty, pos, af, g⟩) (hg : wantedF ops f g = true) (hx : ev f x = strV s) (hy : ev f y = strV t)
    (ht : s = t → DOps P ops Z K r S (upd f d (.bool true)) ds w) (hf : s ≠ t → DOps P ops Z K r S (upd f d (.bool false)) ds w) : DOps P ops Z K (.read i r) S f ds w := by
  by_cases hc : s = t
  · exact D_valG ho rfl hg (fun W => by simp [execOp, hx, hy, eqGuard, binOp, Op.stringOp, hc]) (ht hc)
  · exact D_valG ho rfl hg (fun W => by simp [execOp, hx, hy, eqGuard, binOp, Op.stringOp, hc]) (hf hc)
theorem D_sneq {s t : List UInt8} (ho : ops[i]? = some ⟨some d, .binOp .neq xt x y yt, ty, pos, af, g⟩) (hg : wantedF ops f g = true) (hx : ev f x = strV s) (hy : ev f y = strV t)
    (ht : s ≠ t → DOps P ops Z K r S (upd f d (.bool true)) ds w) (hf : s = t → DOps P ops Z K r S (upd f d (.bool false)) ds w) : DOps P ops Z K (.read i r) S f ds w := by
  by_cases hc : s = t
  · exact D_valG ho rfl hg (fun W => by simp [execOp, hx, hy, eqGuard, binOp, Op.stringOp, hc]) (hf hc)
  · exact D_valG ho rfl hg (fun W => by simp [execOp, hx, hy, eqGuard, binOp, Op.stringOp, hc]) (ht hc)
end cmp
end

/-- a region whose order is drawn: the world behind the draw is as it was, but for a count -/
theorem C_draw {n : Cf} {Q : Post} {id : Nat} {l : List Oper} {f : Fr} {ds : DS} {w : World} (order : DT) (hm : P.follows .mixedOrders = true)
    (hc : (Region.noSelect l.toArray && (l.all (opOk n.n n.r.isSome)) && canonOK l.toArray order l.length (Array.replicate l.length false) false) = true)
    (hQ : ∀ c f f' ds w, Q (.panic c) f ds w → Q (.panic c) f' ds w)
    (h : ∀ w1, Ext w w1 → w1.heap = w.heap → ∃ S : World → Prop, S w1 ∧ DOps P l.toArray (fun f ds ch w => Q (.panic ch) f ds w) (Q .normal) order S f ds w1) : WC P n (.region id l.toArray true) Q f ds w := by
  obtain ⟨S, hS, hd⟩ := h { w with drawn := w.drawn + 1 } ⟨rfl, rfl, rfl, Nat.le_refl _, fun _ _ _ => rfl⟩ rfl
  exact C_drawS order S hm hc hQ hS hd

/-- a region whose order is drawn, in which nothing panics -/
theorem C_drawN {n : Cf} {Q : Post} {id : Nat} {l : List Oper} {f : Fr} {ds : DS} {w : World} (order : DT) (hm : P.follows .mixedOrders = true)
    (hc : (Region.noSelect l.toArray && (l.all (opOk n.n n.r.isSome)) && canonOK l.toArray order l.length (Array.replicate l.length false) false) = true)
    (h : ∀ w1, Ext w w1 → w1.heap = w.heap → ∃ S : World → Prop, S w1 ∧ DOps P l.toArray (fun _ _ _ _ => False) (Q .normal) order S f ds w1) : WC P n (.region id l.toArray true) Q f ds w := by
  have := C_draw (P := P) (n := n) (Q := fun e f ds w => match e with | .normal => Q .normal f ds w | _ => False) (id := id) order hm hc (fun _ _ _ _ _ h => h) h
  rintro a hn rfl rfl
  refine wpIn_mono (this a hn rfl rfl) ?_
  intro e a w hq
  obtain ⟨h1, h2⟩ := hq
  cases e with
  | normal => exact ⟨h1, h2⟩
  | _ => exact h2.elim

theorem nofr_fin {fn : Func} {R : Value → World → Prop} {Y : List PanicEntry → World → Prop} : ∀ c f f' ds w, finQ P fn R Y (.panic c) f ds w → finQ P fn R Y (.panic c) f' ds w := fun _ _ _ _ _ h => h
theorem nofr_then {k : Fr → DS → World → Prop} {Q : Post} (hQ : ∀ c f f' ds w, Q (.panic c) f ds w → Q (.panic c) f' ds w) : ∀ c f f' ds w, thenQ k Q (.panic c) f ds w → thenQ k Q (.panic c) f' ds w := hQ
theorem nofr_block {id : Nat} {Q : Post} (hQ : ∀ c f f' ds w, Q (.panic c) f ds w → Q (.panic c) f' ds w) : ∀ c f f' ds w, blockQ id Q (.panic c) f ds w → blockQ id Q (.panic c) f' ds w := hQ
theorem nofr_scope {Q : Post} (hQ : ∀ c f f' ds w, Q (.panic c) f ds w → Q (.panic c) f' ds w) : ∀ c f f' ds w, scopeQ Q (.panic c) f ds w → scopeQ Q (.panic c) f' ds w := hQ
attribute [irreducible] DOps

end Go.Proofs.YteonolnfgppagaaDoor
