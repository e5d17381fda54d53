/- A rule for a statement whose order is drawn: one order serves all, where what only reads comes first and what acts comes in a chain. Shorter rules: what a comparison yields where it is known, reads in a drawn order. Ranges over functions: the statement, a round, the call of yield, how a function with a mark is left. Rules for strings out of bytes and for arrays of bytes. Helpers for the facts on a program's types. Structs of plain fields compared. Rules: a checked pointer, pieces of strings, places of arrays as values, panics, what an interface holds. The facts on this seat's types and functions, by program (ty.py). The mode in which nothing is told of frozen cells. A law's close: what the walk gives, as the row wants it; the common part. Rules: deferred calls that recover, what an interface holds, results that lie in cells. Formulas, requirements, specifications, edits; kinds of bytes, names. Conditions: none. -/
import Derived.Test.YtkhhjdjmhbdjfaaGreatDoorQT1
import Derived.RangeFuncIn
import Derived.Laws.IdiomStrings
import Derived.ChangeKeysEq
import Derived.KernelRfl
import Derived.Test.YtkhhjdjmhbdjfaaGreatDoorRows
import Derived.WalkKit
import Derived.ProofKit
import Derived.OpenShut
import Derived.JoinedCond
import Derived.ChangeStays
import Derived.ReadAgain
import Derived.Deep.Slices
import Derived.RecoverIn

namespace Go.Proofs.YtkhhjdjmhbdjfaaGreatDoor
open Go.RowKit
variable {mk : Prop} [MK mk]
attribute [local semireducible] WC AX Bx BT Bu finQ finD Bw
variable {P : Program} {ops : Array Oper} {n : Nat} {rr : Option Nat} {Q : Exit → Act → World → Prop} {S : World → Prop}
def SemOk (rr : Option Nat) (ops : Array Oper) : Prop := ∀ (j : Nat) (o : Oper), ops[j]? = some o → ∀ ρ, Oper.semAt rr ρ o = execOp ρ o
def YR (P : Program) (ops : Array Oper) (S : World → Prop) (o : Oper) (v : Value) (a : Act) : Prop :=
 (Region.wanted o (yielded ops a.tmps) = true ∧ ∀ w, S w → (execOp a.eval o).run P w = .ok (.value v) w ∨ ((execOp a.eval o).run P w = .ok .skip w ∧ v = undef) ∨
  (∃ g args w1, (execOp a.eval o).run P w = .ok (.enter g args) w1 ∧ Calls P g args w1 (fun e w' => e = .returned v ∧ w' = w)) ∨
  ∃ l g tmps assign body w1, (execOp a.eval o).run P w = .ok (.round l g tmps assign body) w1 ∧ RoundIn Fence.wide 0 P l g tmps assign body w1 (fun e w' => e = .returned v ∧ w' = w)) ∨
 (Region.wanted o (yielded ops a.tmps) = false ∧ v = undef)
theorem YR.same {o : Oper} {v : Value} {a a' : Act} (hy : YR P ops S o v a) (he : execOp a'.eval o = execOp a.eval o)
  (hw : Region.wanted o (yielded ops a'.tmps) = Region.wanted o (yielded ops a.tmps)) : YR P ops S o v a' := by
 unfold YR at *
 rw [he, hw]
 exact hy
theorem rnd_depth {rr : Option Nat} : (rnd rr).depth.isSome = true → 1 ≤ 0 := fun hh => by simp [rnd, Fence.wide] at hh
theorem YR.wpOp {i : Nat} {o : Oper} {v : Value} {a : Act} {w : World} (hso : SemOk rr ops) (hi : ops[i]? = some o) (hy : YR P ops S o v a) (hS : S w) {K : Act → World → Prop} (h : K (a.put o.dst v) w) : wpOpIn (rnd rr) 0 P ops Q i K a w := by
 unfold Go.wpOpIn
 simp only [hi]
 rcases hy with ⟨hw, hv⟩ | ⟨hw, rfl⟩
 ·simp only [hw, if_true]
  refine ⟨fun _ _ => trivial, ?_⟩
  have hs : (rnd rr).round = rr := rfl
  rw [hs, hso i o hi]
  rcases hv w hS with hr | ⟨hr, rfl⟩ | ⟨g, args, w1, hr, hc⟩ | ⟨l, g, tmps, assign, body, w1, hr, hc⟩
  ·rw [hr]; exact h
  ·rw [hr]; exact h
  ·rw [hr]
   refine ⟨rnd_depth, ?_⟩
   have hc : CallsIn Fence.wide (0 - 1) P g args w1 _ := callsIn_wide.2 hc
   refine CallsIn.mono (F := rnd rr) hc fun e w' he => ?_
   obtain ⟨rfl, rfl⟩ := he
   exact h
  ·rw [hr]
   have hc : RoundIn (rnd rr) (0 - 1) P l g tmps assign body w1 _ := hc
   refine ⟨rnd_depth, RoundIn.mono hc fun e w' he => ?_⟩
   obtain ⟨rfl, rfl⟩ := he
   exact h
 ·simp only [hw, Bool.false_eq_true, if_false]; exact ⟨fun _ _ => trivial, h⟩
theorem wpOp_later {j : Nat} {oi oj : Oper} {v : Value} (hso : SemOk rr ops) (hj : ops[j]? = some oj) (hap : oi.apart ops oj = true)
  (hsi : ∀ cs b, oi.op ≠ .select cs b) (hsj : ∀ cs b, oj.op ≠ .select cs b)
  (hQ : ∀ c a w, Q (.panic c) (a.put oi.dst v) w → Q (.panic c) a w) {K : Act → World → Prop} {a : Act} {w : World}
  (hy : YR P ops S oi v a) (h : wpOpIn (rnd rr) 0 P ops Q j K (a.put oi.dst v) w) :
  wpOpIn (rnd rr) 0 P ops Q j (fun a' w' => YR P ops S oi v a' ∧ K (a'.put oi.dst v) w') a w := by
 obtain ⟨h1, h2, h3⟩ := Oper.apart_spec hap
 have keep : ∀ (b : Act), YR P ops S oi v b → ∀ u, YR P ops S oi v (b.put oj.dst u) := fun b hb u => hb.same (execOp_put oi hsi b oj.dst u h3) (wanted_put oi b oj.dst u h3)
 have swap : ∀ (b : Act) (u : Value) w', YR P ops S oi v b → K ((b.put oi.dst v).put oj.dst u) w' → YR P ops S oi v (b.put oj.dst u) ∧ K ((b.put oj.dst u).put oi.dst v) w' := fun b u w' hb hk =>
  ⟨keep b hb u, by rw [← Act.put_comm b v u h2]; exact hk⟩
 have hw1 := wanted_put (ops := ops) oj a oi.dst v h1
 have he1 := execOp_put (ops := ops) oj hsj a oi.dst v h1
 unfold wpOpIn at h ⊢
 simp only [hj, hw1] at h ⊢
 by_cases hw : Region.wanted oj (yielded ops a.tmps) = true
 ·simp only [hw, if_true] at h ⊢
  refine ⟨fun _ _ => trivial, ?_⟩
  have h := h.2
  have hs : (rnd rr).round = rr := rfl
  rw [hs, hso j oj hj] at h ⊢
  rw [he1] at h
  revert h
  generalize (execOp a.eval oj).run P w = r
  intro h
  cases r with
  | halt x w' => cases x <;> first | exact h.elim | exact hQ _ _ _ h
  | ok m w' =>
   cases m with
   | value u => exact swap a u w' hy h
   | skip => exact swap a undef w' hy h
   | defer d =>
    have hd : YR P ops S oi v { a with defers := d :: a.defers } := hy.same rfl rfl
    refine swap _ undef w' hd ?_
    rw [← Act.put_defers]
    exact h
   | enter g args =>
    refine ⟨rnd_depth, CallsIn.mono h.2 fun e w'' he => ?_⟩
    cases e with
    | returned u => exact swap a u w'' hy he
    | panicked c => exact hQ _ _ _ he
    | outgrown => exact he
   | row r args => exact ⟨h.1, RowsIn.mono h.2 (fun u w'' he => swap a u w'' hy he)⟩
   | round l g tmps assign body =>
    refine ⟨rnd_depth, RoundIn.mono h.2 fun e w'' he => ?_⟩
    cases e with
    | returned u => exact swap a u w'' hy he
    | panicked c => exact hQ _ _ _ he
    | outgrown => exact he
   | _ => exact h.elim
 ·simp only [hw] at h ⊢
  exact ⟨fun _ _ => trivial, swap a undef w hy h.2⟩
def wpT (rr : Option Nat) (P : Program) (ops : Array Oper) (Q : Exit → Act → World → Prop) (S : World → Prop) : Nat → Array Bool → Act → World → Prop
 | 0, listed, a, w => Region.ready .any ops listed = [] ∧ Q .normal a w
 | fuel + 1, listed, a, w => (Region.ready .any ops listed = [] → Q .normal a w) ∧
  ∀ i ∈ Region.ready .any ops listed, wpOpIn (rnd rr) 0 P ops Q i (fun a' w' => S w' ∧ wpT rr P ops Q S fuel (listed.setIfInBounds i true) a' w') a w
theorem wpT_any : ∀ (fuel : Nat) (listed : Array Bool) (a : Act) (w : World), wpT rr P ops Q S fuel listed a w → wpAnyIn (rnd rr) 0 P .any ops Q fuel listed a w
 | 0, _, _, _, h => h
 | fuel + 1, _, _, _, h => ⟨h.1, fun i hi => wpOpIn_mono (fun a' w' h' => wpT_any fuel _ a' w' h'.2) (h.2 i hi)⟩
theorem wpT_mono {S' : World → Prop} (hs : ∀ w, S' w → S w) : ∀ (fuel : Nat) (listed : Array Bool) (a : Act) (w : World), wpT rr P ops Q S' fuel listed a w → wpT rr P ops Q S fuel listed a w
 | 0, _, _, _, h => h
 | fuel + 1, _, _, _, h => ⟨h.1, fun i hi => wpOpIn_mono (fun a' w' h' => ⟨hs w' h'.1, wpT_mono hs fuel _ a' w' h'.2⟩) (h.2 i hi)⟩
theorem wpT_first {i : Nat} {oi : Oper} {v : Value} (hso : SemOk rr ops) (hi : ops[i]? = some oi) (hsel : ∀ (j : Nat) (o : Oper) cs b, ops[j]? = some o → o.op ≠ .select cs b)
  (hQ : ∀ c a w, Q (.panic c) (a.put oi.dst v) w → Q (.panic c) a w) : ∀ (fuel : Nat) (listed : Array Bool) (a : Act) (w : World),
   (∀ j oj, ops[j]? = some oj → j ≠ i → listed.getD j true = false → (∀ e ∈ oj.after, Region.binds .any e = true → e.on ≠ i) → oi.apart ops oj = true) →
   i ∈ Region.ready .any ops listed → YR P ops S oi v a → S w →
   wpT rr P ops Q S fuel (listed.setIfInBounds i true) (a.put oi.dst v) w → wpT rr P ops Q S (fuel + 1) listed a w := by
 intro fuel
 induction fuel with
 | zero =>
  intro listed a w _ hr hy hS H
  refine ⟨fun h => (by rw [h] at hr; cases hr), fun j hj => ?_⟩
  by_cases hji : j = i
  ·subst hji; exact hy.wpOp hso hi hS ⟨hS, H⟩
  ·have := ready_mono hj hji
   rw [H.1] at this
   cases this
 | succ fuel ih =>
  intro listed a w hfree hr hy hS H
  refine ⟨fun h => (by rw [h] at hr; cases hr), fun j hj => ?_⟩
  by_cases hji : j = i
  ·subst hji; exact hy.wpOp hso hi hS ⟨hS, H⟩
  ·have h1 := H.2 j (ready_mono hj hji)
   obtain ⟨hjun, oj, hoj, hall⟩ := mem_ready.1 hj
   have hiun := (mem_ready.1 hr).1
   have hnot : ∀ e ∈ oj.after, Region.binds .any e = true → e.on ≠ i := by
    intro e he hb heq
    have h2 := hall e he hb
    rw [heq] at h2
    by_cases hlt : i < listed.size
    ·simp [hlt] at hiun h2; rw [hiun] at h2; cases h2
    ·simp [Array.getElem?_eq_none (Nat.le_of_not_lt hlt)] at h2
   have h2 := wpOp_later hso hoj (hfree j oj hoj hji hjun hnot) (fun cs b => hsel i oi cs b hi) (fun cs b => hsel j oj cs b hoj) hQ hy h1
   refine wpOpIn_mono (fun a' w' h3 => ⟨h3.2.1, ?_⟩) h2
   refine ih (listed.setIfInBounds j true) a' w' ?_ (ready_mono hr (Ne.symm hji)) h3.1 h3.2.1 ?_
   ·intro k ok hk hki hun hno
    refine hfree k ok hk hki ?_ hno
    by_cases hjk : j = k
    ·subst hjk; exact hjun
    ·rw [getD_set_ne true hjk] at hun; exact hun
   ·rw [Array.setIfInBounds_comm _ _ hji]
    exact h3.2.2
inductive DT where
 | done
 | stop
 | read (i : Nat) (t : DT)
 | alt (i : Nat) (t r : DT)
def DT.heads : DT → List Nat
 | .alt i _ r => i :: r.heads
 | _ => []
def Cl (ops : Array Oper) : DT → Nat → Array Bool → Bool → Bool
 | .done, n, listed, b => !b && Nat.beq n 0 && (Region.ready .any ops listed).isEmpty
 | .stop, _, _, b => b
 | .read _ _, 0, _, _ => false
 | .read i t, n + 1, listed, b => !b && (Region.ready .any ops listed).contains i && Region.free .any ops listed i && Cl ops t n (listed.setIfInBounds i true) false
 | .alt _ _ _, 0, _, _ => false
 | .alt i t r, n + 1, listed, b => (b || (Region.ready .any ops listed == (DT.alt i t r).heads)) && Cl ops t n (listed.setIfInBounds i true) false && Cl ops r (n + 1) listed true
def Ba (P : Program) (ops : Array Oper) (Z : Fr → DS → List PanicEntry → World → Prop) (K : Fr → DS → World → Prop) : DT → (World → Prop) → Fr → DS → World → Prop
 | .done, _, f, ds, w => K f ds w
 | .stop, _, _, _, _ => True
 | .read i r, S, f, ds, w => ∃ o d v, ops[i]? = some o ∧ o.dst = some d ∧
   (∀ W, S W → AX P ops (fun _ _ _ _ => False) (fun f' ds' w' => f' = upd f d v ∧ ds' = ds ∧ w' = W) [o] f ds W) ∧ Ba P ops Z K r S (upd f d v) ds w
 | .alt i t r, S, f, ds, w => (∃ o, ops[i]? = some o ∧ AX P ops Z (fun f' ds' w' => ∃ S' : World → Prop, (∀ W, S' W → S W) ∧ S' w' ∧ Ba P ops Z K t S' f' ds' w') [o] f ds w) ∧ Ba P ops Z K r S f ds w
theorem upd_inj {f : Fr} {d : Nat} {u v : Value} (h : upd f d u = upd f d v) : u = v := by
 have := congrFun h d
 simpa [upd] using this
theorem YR_of {o : Oper} {d : Nat} {v : Value} {a : Act} (hd : o.dst = some d) {w0 : World} (hS0 : S w0)
  (h : ∀ W, S W → AX P ops (fun _ _ _ _ => False) (fun f' ds' w' => f' = upd (CJ a) d v ∧ ds' = a.defers ∧ w' = W) [o] (CJ a) a.defers W) : YR P ops S o v a := by
 unfold YR
 rw [wanted_toFr]
 by_cases hw : BF ops (CJ a) o.guard = true
 ·refine .inl ⟨hw, fun w hw' => ?_⟩
  have h1 := h w hw'
  unfold AX at h1
  rw [if_pos hw] at h1
  unfold Bw at h1
  rw [ev_toFr]
  revert h1
  generalize (execOp (ev (CJ a)) o).run P w = r
  intro h1
  cases r with
  | halt x w' => cases x <;> exact h1.elim
  | ok m w' =>
   cases m with
   | value u =>
    obtain ⟨e1, _, e3⟩ := h1
    simp only [hd, putF] at e1
    rw [upd_inj e1, e3]
    exact .inl rfl
   | skip =>
    obtain ⟨e1, _, e3⟩ := h1
    simp only [hd, putF] at e1
    rw [← upd_inj e1, e3]
    exact .inr (.inl ⟨rfl, rfl⟩)
   | defer d' =>
    obtain ⟨_, e2, _⟩ := h1
    exact absurd e2 (by simp)
   | enter g args =>
    refine .inr (.inr (.inl ⟨g, args, w', rfl, Calls.mono h1 fun e w'' he => ?_⟩))
    cases e with
    | returned u =>
     obtain ⟨e1, _, e3⟩ := he
     simp only [hd, putF] at e1
     exact ⟨by rw [upd_inj e1], e3⟩
    | panicked c => exact he.elim
    | outgrown => exact he.elim
   | round l g tmps assign body =>
    refine .inr (.inr (.inr ⟨l, g, tmps, assign, body, w', rfl, RoundIn.mono h1 fun e w'' he => ?_⟩))
    cases e with
    | returned u =>
     obtain ⟨e1, _, e3⟩ := he
     simp only [hd, putF] at e1
     exact ⟨by rw [upd_inj e1], e3⟩
    | panicked c => exact he.elim
    | outgrown => exact he.elim
   | _ => exact h1.elim
 ·have hw' : BF ops (CJ a) o.guard = false := by simpa using hw
  refine .inr ⟨hw', ?_⟩
  have h1 := h w0 hS0
  unfold AX at h1
  rw [if_neg hw] at h1
  obtain ⟨e1, _⟩ := h1
  simp only [hd, putF] at e1
  exact (upd_inj e1).symm
theorem wpOp_of_WOps {n : Nat} {Q : CX} {K : Fr → DS → World → Prop} {o : Oper} {i : Nat} (hi : ops[i]? = some o) {a : Act} {w : World} (hn : a.tmps.size = n) (hok : opOk n rr.isSome o = true)
  {K' : Act → World → Prop} (hK : ∀ a' w', a'.tmps.size = n → K (CJ a') a'.defers w' → K' a' w')
  (h : AX P ops (fun f ds ch w => Q (.panic ch) f ds w) K [o] (CJ a) a.defers w) : wpOpIn (rnd rr) 0 P ops (liftQ n Q) i K' a w := by
 have hd : dOk n o.dst = true := by have := hok; simp only [opOk, Bool.and_eq_true] at this; exact this.1
 have next := next_of (n := n) (o := o) (a := a) (K := K) (K' := K') hn hd hK
 unfold wpOpIn
 simp only [hi, wanted_toFr]
 unfold AX at h
 by_cases hw : BF ops (CJ a) o.guard = true
 ·simp only [hw, if_true] at h ⊢
  exact uponIn_of (r := rr) hn hok next h
 ·simp only [hw] at h ⊢
  exact ⟨fun _ _ => trivial, next undef a.defers w h⟩
theorem semOk_of {n : Nat} (hok : ops.toList.all (opOk n rr.isSome) = true) : SemOk rr ops := fun j o ho ρ =>
 semAt_ok (n := n) (List.all_eq_true.1 hok o (by simpa using Array.mem_of_getElem? ho)) ρ
theorem D_sound {n : Nat} {Q : CX} (hsel : Region.noSelect ops = true) (hok : ops.toList.all (opOk n rr.isSome) = true) (hQ : ∀ c f f' ds w, Q (.panic c) f ds w → Q (.panic c) f' ds w) :
  ∀ (order : DT) (fuel : Nat) (listed : Array Bool) (b : Bool) (S : World → Prop) (a : Act) (w : World), Cl ops order fuel listed b = true → a.tmps.size = n → S w →
   Ba P ops (fun f ds ch w => Q (.panic ch) f ds w) (Q .normal) order S (CJ a) a.defers w →
   (b = false → wpT rr P ops (liftQ n Q) S fuel listed a w) ∧
   (∀ k, fuel = k + 1 → ∀ j ∈ order.heads, wpOpIn (rnd rr) 0 P ops (liftQ n Q) j (fun a' w' => S w' ∧ wpT rr P ops (liftQ n Q) S k (listed.setIfInBounds j true) a' w') a w)
 | .done, fuel, listed, b, S, a, w, hc, hn, hS, h => by
  simp only [Cl, Bool.and_eq_true, List.isEmpty_iff, Bool.not_eq_true'] at hc
  obtain ⟨⟨rfl, h2⟩, h3⟩ := hc
  obtain rfl := Nat.eq_of_beq_eq_true h2
  exact ⟨fun _ => ⟨h3, hn, h⟩, fun _ _ j hj => by simp [DT.heads] at hj⟩
 | .stop, fuel, listed, b, S, a, w, hc, hn, hS, h => by
  simp only [Cl] at hc
  subst hc
  exact ⟨(fun h => by cases h), fun _ _ j hj => by simp [DT.heads] at hj⟩
 | .read i r, 0, listed, b, S, a, w, hc, hn, hS, h => by simp [Cl] at hc
 | .read i r, fuel + 1, listed, b, S, a, w, hc, hn, hS, h => by
  simp only [Cl, Bool.and_eq_true, Bool.not_eq_true'] at hc
  obtain ⟨⟨⟨h0, h1⟩, h2⟩, h3⟩ := hc
  obtain ⟨o, d, v, ho, hd, hy, hk⟩ := h
  have hdo : opOk n rr.isSome o = true := List.all_eq_true.1 hok o (by simpa using Array.mem_of_getElem? ho)
  have hdn : dOk n o.dst = true := by have := hdo; simp only [opOk, Bool.and_eq_true] at this; exact this.1
  have hlt : d < a.tmps.size := by rw [hd] at hdn; simpa [dOk, Nat.blt_eq, hn] using hdn
  have hpanic : ∀ c (a' : Act) (w' : World), liftQ n Q (.panic c) (a'.put o.dst v) w' → liftQ n Q (.panic c) a' w' := fun c a' w' hq =>
   ⟨by simpa [size_put] using hq.1, hQ c _ _ _ _ (by have := hq.2; rw [defers_put] at this; exact this)⟩
  refine ⟨fun _ => wpT_first (semOk_of hok) ho (Region.noSelect_spec hsel) hpanic fuel listed a w (Region.free_spec ho h2) (by simpa using h1) (YR_of hd hS hy) hS ?_, fun _ _ j hj => by simp [DT.heads] at hj⟩
  refine (D_sound hsel hok hQ r fuel _ false S (a.put o.dst v) w h3 (by rw [size_put]; exact hn) hS ?_).1 rfl
  rw [defers_put, hd, toFr_put v hlt]
  exact hk
 | .alt i t r, 0, listed, b, S, a, w, hc, hn, hS, h => by simp [Cl] at hc
 | .alt i t r, fuel + 1, listed, b, S, a, w, hc, hn, hS, h => by
  simp only [Cl, Bool.and_eq_true] at hc
  obtain ⟨⟨h1, h2⟩, h3⟩ := hc
  obtain ⟨⟨o, ho, hk⟩, hrest⟩ := h
  have hdn : opOk n rr.isSome o = true := List.all_eq_true.1 hok o (by simpa using Array.mem_of_getElem? ho)
  have hall : ∀ j ∈ (DT.alt i t r).heads, wpOpIn (rnd rr) 0 P ops (liftQ n Q) j (fun a' w' => S w' ∧ wpT rr P ops (liftQ n Q) S fuel (listed.setIfInBounds j true) a' w') a w := by
   intro j hj
   simp only [DT.heads, List.mem_cons] at hj
   rcases hj with rfl | hj
   ·refine wpOp_of_WOps ho hn hdn ?_ hk
    rintro a' w' hn' ⟨S', hs, hS', hd⟩
    exact ⟨hs w' hS', wpT_mono hs _ _ _ _ ((D_sound hsel hok hQ t fuel _ false S' a' w' h2 hn' hS' hd).1 rfl)⟩
   ·exact (D_sound hsel hok hQ r (fuel + 1) listed true S a w h3 hn hS hrest).2 fuel rfl j hj
  refine ⟨fun hb => ?_, fun k hk j hj => ?_⟩
  ·subst hb
   simp only [Bool.false_or, beq_iff_eq] at h1
   exact ⟨fun h0 => (by rw [h0] at h1; simp [DT.heads] at h1), fun j hj => hall j (by rw [← h1]; exact hj)⟩
  ·obtain rfl : fuel = k := by omega
   exact hall j hj
theorem C_drawS {n : Cf} {Q : CX} {id : Nat} {l : List Oper} {f : Fr} {ds : DS} {w : World} (order : DT) (S : World → Prop) (hm : P.follows .mixedOrders = true)
  (hc : (Region.noSelect l.toArray && (l.all (opOk n.n n.r.isSome)) && Cl l.toArray order l.length (Array.replicate l.length false) false) = true)
  (hQ : ∀ c f f' ds w, Q (.panic c) f ds w → Q (.panic c) f' ds w) (hS : S { w with drawn := w.drawn + 1 })
  (h : Ba P l.toArray (fun f ds ch w => Q (.panic ch) f ds w) (Q .normal) order S f ds { w with drawn := w.drawn + 1 }) : WC P n (.region id l.toArray true) Q f ds w := by
 simp only [Bool.and_eq_true] at hc
 obtain ⟨⟨h1, h2⟩, h3⟩ := hc
 rintro a hn rfl rfl
 refine wpIn_region_any hm (wpT_any (S := S) _ _ _ _ ?_)
 have := (D_sound (P := P) (rr := n.r) (ops := l.toArray) h1 (by simpa using h2) hQ order _ _ false S a _ h3 hn hS h).1 rfl
 simpa using this
section
variable {Z : Fr → DS → List PanicEntry → World → Prop} {K : Fr → DS → World → Prop} {r t : DT} {f : Fr} {ds : DS} {w : World} {i d : Nat} {o : Oper} {v : Value}
theorem Ah (h : K f ds w) : Ba P ops Z K .done S f ds w := h
theorem D_R (ho : ops[i]? = some o) (hd : o.dst = some d) (hy : ∀ W, S W → AX P ops (fun _ _ _ _ => False) (fun f' ds' w' => f' = upd f d v ∧ ds' = ds ∧ w' = W) [o] f ds W)
  (h : Ba P ops Z K r S (upd f d v) ds w) : Ba P ops Z K (.read i r) S f ds w := ⟨o, d, v, ho, hd, hy, h⟩
theorem D_E (ho : ops[i]? = some o) (h : AX P ops Z (fun f' ds' w' => ∃ S' : World → Prop, (∀ W, S' W → S W) ∧ S' w' ∧ Ba P ops Z K t S' f' ds' w') [o] f ds w) :
  Ba P ops Z K (.alt i t .stop) S f ds w := ⟨⟨o, ho, h⟩, trivial⟩
theorem D_A (ho : ops[i]? = some o) (h : AX P ops Z (fun f' ds' w' => ∃ S' : World → Prop, (∀ W, S' W → S W) ∧ S' w' ∧ Ba P ops Z K t S' f' ds' w') [o] f ds w) (h2 : Ba P ops Z K r S f ds w) :
  Ba P ops Z K (.alt i t r) S f ds w := ⟨⟨o, ho, h⟩, h2⟩
theorem D_valG (ho : ops[i]? = some o) (hd : o.dst = some d) (hg : BF ops f o.guard = true) (hr : ∀ W, (execOp (ev f) o).run P W = .ok (.value v) W) (h : Ba P ops Z K r S (upd f d v) ds w) : Ba P ops Z K (.read i r) S f ds w := by
 refine D_R ho hd (fun W _ => ?_) h
 unfold AX
 rw [if_pos hg]
 unfold Bw
 rw [hr W]
 exact ⟨by rw [hd]; rfl, rfl, rfl⟩
theorem Am {j : Nat} {want : Bool} (ho : ops[i]? = some o) (hd : o.dst = some d) (hg : o.guard = some (j, want)) (hv : guardVal ops f j = some (!want)) (h : Ba P ops Z K r S (upd f d undef) ds w) : Ba P ops Z K (.read i r) S f ds w := by
 refine D_R ho hd (fun W _ => ?_) h
 unfold AX
 have e : BF ops f o.guard = false := by rw [hg]; simp only [BF, hv]; cases want <;> rfl
 rw [e]
 exact ⟨by rw [hd]; rfl, rfl, rfl⟩
section cmp
variable {xt yt ty : TypeId} {x y : Operand} {k : IntKind} {a b : Int} {pos : String} {af : Array Edge} {g : Option (Nat × Bool)}
theorem D_lss (ho : ops[i]? = some ⟨some d, .binOp .lss xt x y yt, ty, pos, af, g⟩) (hg : BF ops f g = true) (hx : ev f x = .int k a) (hy : ev f y = .int k b)
  (ht : a < b → Ba P ops Z K r S (upd f d (.bool true)) ds w) (hf : b ≤ a → Ba P ops Z K r S (upd f d (.bool false)) ds w) : Ba P ops Z K (.read i r) S f ds w := by
 by_cases hc : a < b
 ·exact D_valG ho rfl hg (fun W => by simp [execOp, hx, hy, eqGuard, binOp, Op.intCmp, hc]) (ht hc)
 ·exact D_valG ho rfl hg (fun W => by simp [execOp, hx, hy, eqGuard, binOp, Op.intCmp, hc]) (hf (by omega))
theorem D_gtr (ho : ops[i]? = some ⟨some d, .binOp .gtr xt x y yt, ty, pos, af, g⟩) (hg : BF ops f g = true) (hx : ev f x = .int k a) (hy : ev f y = .int k b)
  (ht : b < a → Ba P ops Z K r S (upd f d (.bool true)) ds w) (hf : a ≤ b → Ba P ops Z K r S (upd f d (.bool false)) ds w) : Ba P ops Z K (.read i r) S f ds w := by
 by_cases hc : b < a
 ·exact D_valG ho rfl hg (fun W => by simp [execOp, hx, hy, eqGuard, binOp, Op.intCmp, hc]) (ht hc)
 ·exact D_valG ho rfl hg (fun W => by simp [execOp, hx, hy, eqGuard, binOp, Op.intCmp, hc]) (hf (by omega))
theorem D_geq (ho : ops[i]? = some ⟨some d, .binOp .geq xt x y yt, ty, pos, af, g⟩) (hg : BF ops f g = true) (hx : ev f x = .int k a) (hy : ev f y = .int k b)
  (ht : b ≤ a → Ba P ops Z K r S (upd f d (.bool true)) ds w) (hf : a < b → Ba P ops Z K r S (upd f d (.bool false)) ds w) : Ba P ops Z K (.read i r) S f ds w := by
 by_cases hc : b ≤ a
 ·exact D_valG ho rfl hg (fun W => by simp [execOp, hx, hy, eqGuard, binOp, Op.intCmp, hc]) (ht hc)
 ·exact D_valG ho rfl hg (fun W => by simp [execOp, hx, hy, eqGuard, binOp, Op.intCmp, hc]) (hf (by omega))
theorem D_eql (ho : ops[i]? = some ⟨some d, .binOp .eql xt x y yt, ty, pos, af, g⟩) (hg : BF ops f g = true) (hx : ev f x = .int k a) (hy : ev f y = .int k b)
  (ht : a = b → Ba P ops Z K r S (upd f d (.bool true)) ds w) (hf : a ≠ b → Ba P ops Z K r S (upd f d (.bool false)) ds w) : Ba P ops Z K (.read i r) S f ds w := by
 by_cases hc : a = b
 ·exact D_valG ho rfl hg (fun W => by simp [execOp, hx, hy, eqGuard, binOp, Op.intCmp, hc]) (ht hc)
 ·exact D_valG ho rfl hg (fun W => by simp [execOp, hx, hy, eqGuard, binOp, Op.intCmp, hc]) (hf hc)
theorem D_neq (ho : ops[i]? = some ⟨some d, .binOp .neq xt x y yt, ty, pos, af, g⟩) (hg : BF ops f g = true) (hx : ev f x = .int k a) (hy : ev f y = .int k b)
  (ht : a ≠ b → Ba P ops Z K r S (upd f d (.bool true)) ds w) (hf : a = b → Ba P ops Z K r S (upd f d (.bool false)) ds w) : Ba P ops Z K (.read i r) S f ds w := by
 by_cases hc : a = b
 ·exact D_valG ho rfl hg (fun W => by simp [execOp, hx, hy, eqGuard, binOp, Op.intCmp, hc]) (hf hc)
 ·exact D_valG ho rfl hg (fun W => by simp [execOp, hx, hy, eqGuard, binOp, Op.intCmp, hc]) (ht hc)
theorem D_seql {s t : List UInt8} (ho : ops[i]? = some ⟨some d, .binOp .eql xt x y yt, ty, pos, af, g⟩) (hg : BF ops f g = true) (hx : ev f x = An s) (hy : ev f y = An t)
  (ht : s = t → Ba P ops Z K r S (upd f d (.bool true)) ds w) (hf : s ≠ t → Ba P ops Z K r S (upd f d (.bool false)) ds w) : Ba P ops Z K (.read i r) S f ds w := by
 by_cases hc : s = t
 ·exact D_valG ho rfl hg (fun W => by simp [execOp, hx, hy, eqGuard, binOp, Op.stringOp, hc]) (ht hc)
 ·exact D_valG ho rfl hg (fun W => by simp [execOp, hx, hy, eqGuard, binOp, Op.stringOp, hc]) (hf hc)
theorem D_sneq {s t : List UInt8} (ho : ops[i]? = some ⟨some d, .binOp .neq xt x y yt, ty, pos, af, g⟩) (hg : BF ops f g = true) (hx : ev f x = An s) (hy : ev f y = An t)
  (ht : s ≠ t → Ba P ops Z K r S (upd f d (.bool true)) ds w) (hf : s = t → Ba P ops Z K r S (upd f d (.bool false)) ds w) : Ba P ops Z K (.read i r) S f ds w := by
 by_cases hc : s = t
 ·exact D_valG ho rfl hg (fun W => by simp [execOp, hx, hy, eqGuard, binOp, Op.stringOp, hc]) (hf hc)
 ·exact D_valG ho rfl hg (fun W => by simp [execOp, hx, hy, eqGuard, binOp, Op.stringOp, hc]) (ht hc)
end cmp
end
theorem C_draw {n : Cf} {Q : CX} {id : Nat} {l : List Oper} {f : Fr} {ds : DS} {w : World} (order : DT) (hm : P.follows .mixedOrders = true)
  (hc : (Region.noSelect l.toArray && (l.all (opOk n.n n.r.isSome)) && Cl l.toArray order l.length (Array.replicate l.length false) false) = true)
  (hQ : ∀ c f f' ds w, Q (.panic c) f ds w → Q (.panic c) f' ds w)
  (h : ∀ w1, Ext w w1 → w1.heap = w.heap → ∃ S : World → Prop, S w1 ∧ Ba P l.toArray (fun f ds ch w => Q (.panic ch) f ds w) (Q .normal) order S f ds w1) : WC P n (.region id l.toArray true) Q f ds w := by
 obtain ⟨S, hS, hd⟩ := h { w with drawn := w.drawn + 1 } ⟨rfl, rfl, rfl, Nat.le_refl _, fun _ _ _ => rfl, fun _ => mark_heap rfl, Nat.le_succ _⟩ rfl
 exact C_drawS order S hm hc hQ hS hd
theorem Ad {n : Cf} {Q : CX} {id : Nat} {l : List Oper} {f : Fr} {ds : DS} {w : World} (order : DT) (hm : P.follows .mixedOrders = true)
  (hc : (Region.noSelect l.toArray && (l.all (opOk n.n n.r.isSome)) && Cl l.toArray order l.length (Array.replicate l.length false) false) = true)
  (h : ∀ w1, Ext w w1 → w1.heap = w.heap → ∃ S : World → Prop, S w1 ∧ Ba P l.toArray (fun _ _ _ _ => False) (Q .normal) order S f ds w1) : WC P n (.region id l.toArray true) Q f ds w := by
 have := C_draw (P := P) (n := n) (Q := fun e f ds w => match e with | .normal => Q .normal f ds w | _ => False) (id := id) order hm hc (fun _ _ _ _ _ h => h) h
 rintro a hn rfl rfl
 refine wpIn_mono (this a hn rfl rfl) ?_
 intro e a w hq
 obtain ⟨h1, h2⟩ := hq
 cases e with
 | normal => exact ⟨h1, h2⟩
 | _ => exact h2.elim
attribute [irreducible] Ba
end Go.Proofs.YtkhhjdjmhbdjfaaGreatDoor
namespace Go.Proofs.YtkhhjdjmhbdjfaaGreatDoor
open Go.RowKit
set_option linter.unusedVariables false
section
variable {P : Program} {all : Array Oper} {Z : Fr → DS → List PanicEntry → World → Prop} {K : Fr → DS → World → Prop} {rest : List Oper} {f : Fr} {ds : DS} {w : World}
 {d : Nat} {ty : TypeId} {pos : String} {af : Array Edge} {x y : Operand} {xt yt : TypeId} {k : IntKind} {a b : Int}
theorem At (hx : ev f x = .int k a) (hy : ev f y = .int k b) (c : a < b) (h : AX P all Z K rest (upd f d (.bool true)) ds w) : AX P all Z K (⟨some d, .binOp .lss xt x y yt, ty, pos, af, none⟩ :: rest) f ds w := W_lss hx hy (fun _ => h) fun e => absurd e (by omega)
theorem Aj (hx : ev f x = .int k a) (hy : ev f y = .int k b) (c : b ≤ a) (h : AX P all Z K rest (upd f d (.bool false)) ds w) : AX P all Z K (⟨some d, .binOp .lss xt x y yt, ty, pos, af, none⟩ :: rest) f ds w := W_lss hx hy (fun e => absurd e (by omega)) fun _ => h
theorem BZ (hx : ev f x = .int k a) (hy : ev f y = .int k b) (c : a ≤ b) (h : AX P all Z K rest (upd f d (.bool true)) ds w) : AX P all Z K (⟨some d, .binOp .leq xt x y yt, ty, pos, af, none⟩ :: rest) f ds w := W_leq hx hy (fun _ => h) fun e => absurd e (by omega)
theorem Bh (hx : ev f x = .int k a) (hy : ev f y = .int k b) (c : b < a) (h : AX P all Z K rest (upd f d (.bool false)) ds w) : AX P all Z K (⟨some d, .binOp .leq xt x y yt, ty, pos, af, none⟩ :: rest) f ds w := W_leq hx hy (fun e => absurd e (by omega)) fun _ => h
theorem Co (hx : ev f x = .int k a) (hy : ev f y = .int k b) (c : b < a) (h : AX P all Z K rest (upd f d (.bool true)) ds w) : AX P all Z K (⟨some d, .binOp .gtr xt x y yt, ty, pos, af, none⟩ :: rest) f ds w := W_gtr hx hy (fun _ => h) fun e => absurd e (by omega)
theorem B9 (hx : ev f x = .int k a) (hy : ev f y = .int k b) (c : a ≤ b) (h : AX P all Z K rest (upd f d (.bool false)) ds w) : AX P all Z K (⟨some d, .binOp .gtr xt x y yt, ty, pos, af, none⟩ :: rest) f ds w := W_gtr hx hy (fun e => absurd e (by omega)) fun _ => h
theorem BC (hx : ev f x = .int k a) (hy : ev f y = .int k b) (c : b ≤ a) (h : AX P all Z K rest (upd f d (.bool true)) ds w) : AX P all Z K (⟨some d, .binOp .geq xt x y yt, ty, pos, af, none⟩ :: rest) f ds w := W_geq hx hy (fun _ => h) fun e => absurd e (by omega)
theorem CD (hx : ev f x = .int k a) (hy : ev f y = .int k b) (c : a < b) (h : AX P all Z K rest (upd f d (.bool false)) ds w) : AX P all Z K (⟨some d, .binOp .geq xt x y yt, ty, pos, af, none⟩ :: rest) f ds w := W_geq hx hy (fun e => absurd e (by omega)) fun _ => h
theorem Ai (hx : ev f x = .int k a) (hy : ev f y = .int k b) (c : a = b) (h : AX P all Z K rest (upd f d (.bool true)) ds w) : AX P all Z K (⟨some d, .binOp .eql xt x y yt, ty, pos, af, none⟩ :: rest) f ds w := CC hx hy (fun _ => h) fun e => absurd c e
theorem AT (hx : ev f x = .int k a) (hy : ev f y = .int k b) (c : ¬a = b) (h : AX P all Z K rest (upd f d (.bool false)) ds w) : AX P all Z K (⟨some d, .binOp .eql xt x y yt, ty, pos, af, none⟩ :: rest) f ds w := CC hx hy (fun e => absurd e c) fun _ => h
theorem W_neqT (hx : ev f x = .int k a) (hy : ev f y = .int k b) (c : ¬a = b) (h : AX P all Z K rest (upd f d (.bool true)) ds w) : AX P all Z K (⟨some d, .binOp .neq xt x y yt, ty, pos, af, none⟩ :: rest) f ds w := W_neq hx hy (fun _ => h) fun e => absurd e c
theorem W_neqF (hx : ev f x = .int k a) (hy : ev f y = .int k b) (c : a = b) (h : AX P all Z K rest (upd f d (.bool false)) ds w) : AX P all Z K (⟨some d, .binOp .neq xt x y yt, ty, pos, af, none⟩ :: rest) f ds w := W_neq hx hy (fun e => absurd c e) fun _ => h
theorem Z3 {v : Value} : AX P all Z (fun f' ds' w' => f' = upd f d v ∧ ds' = ds ∧ w' = w) [] (upd f d v) ds w := AO ⟨rfl, rfl, rfl⟩
end
section
variable {P : Program} {ops : Array Oper} {Z : Fr → DS → List PanicEntry → World → Prop} {K : Fr → DS → World → Prop} {S : World → Prop} {f : Fr} {ds : DS} {w : World} {i d : Nat} {r : DT} {xt yt ty : TypeId} {x y : Operand} {k : IntKind} {a b : Int} {pos : String} {af : Array Edge} {g : Option (Nat × Bool)}
theorem D_lssT (ho : ops[i]? = some ⟨some d, .binOp .lss xt x y yt, ty, pos, af, g⟩) (hg : BF ops f g = true) (hx : ev f x = .int k a) (hy : ev f y = .int k b) (c : a < b) (h : Ba P ops Z K r S (upd f d (.bool true)) ds w) : Ba P ops Z K (.read i r) S f ds w := D_lss ho hg hx hy (fun _ => h) (fun e => absurd e (by omega))
theorem D_lssF (ho : ops[i]? = some ⟨some d, .binOp .lss xt x y yt, ty, pos, af, g⟩) (hg : BF ops f g = true) (hx : ev f x = .int k a) (hy : ev f y = .int k b) (c : b ≤ a) (h : Ba P ops Z K r S (upd f d (.bool false)) ds w) : Ba P ops Z K (.read i r) S f ds w := D_lss ho hg hx hy (fun e => absurd e (by omega)) fun _ => h
theorem D_gtrT (ho : ops[i]? = some ⟨some d, .binOp .gtr xt x y yt, ty, pos, af, g⟩) (hg : BF ops f g = true) (hx : ev f x = .int k a) (hy : ev f y = .int k b) (c : b < a) (h : Ba P ops Z K r S (upd f d (.bool true)) ds w) : Ba P ops Z K (.read i r) S f ds w := D_gtr ho hg hx hy (fun _ => h) (fun e => absurd e (by omega))
theorem D_gtrF (ho : ops[i]? = some ⟨some d, .binOp .gtr xt x y yt, ty, pos, af, g⟩) (hg : BF ops f g = true) (hx : ev f x = .int k a) (hy : ev f y = .int k b) (c : a ≤ b) (h : Ba P ops Z K r S (upd f d (.bool false)) ds w) : Ba P ops Z K (.read i r) S f ds w := D_gtr ho hg hx hy (fun e => absurd e (by omega)) fun _ => h
theorem D_geqT (ho : ops[i]? = some ⟨some d, .binOp .geq xt x y yt, ty, pos, af, g⟩) (hg : BF ops f g = true) (hx : ev f x = .int k a) (hy : ev f y = .int k b) (c : b ≤ a) (h : Ba P ops Z K r S (upd f d (.bool true)) ds w) : Ba P ops Z K (.read i r) S f ds w := D_geq ho hg hx hy (fun _ => h) (fun e => absurd e (by omega))
theorem D_geqF (ho : ops[i]? = some ⟨some d, .binOp .geq xt x y yt, ty, pos, af, g⟩) (hg : BF ops f g = true) (hx : ev f x = .int k a) (hy : ev f y = .int k b) (c : a < b) (h : Ba P ops Z K r S (upd f d (.bool false)) ds w) : Ba P ops Z K (.read i r) S f ds w := D_geq ho hg hx hy (fun e => absurd e (by omega)) fun _ => h
theorem D_eqlT (ho : ops[i]? = some ⟨some d, .binOp .eql xt x y yt, ty, pos, af, g⟩) (hg : BF ops f g = true) (hx : ev f x = .int k a) (hy : ev f y = .int k b) (c : a = b) (h : Ba P ops Z K r S (upd f d (.bool true)) ds w) : Ba P ops Z K (.read i r) S f ds w := D_eql ho hg hx hy (fun _ => h) (fun e => absurd c e)
theorem D_eqlF (ho : ops[i]? = some ⟨some d, .binOp .eql xt x y yt, ty, pos, af, g⟩) (hg : BF ops f g = true) (hx : ev f x = .int k a) (hy : ev f y = .int k b) (c : ¬a = b) (h : Ba P ops Z K r S (upd f d (.bool false)) ds w) : Ba P ops Z K (.read i r) S f ds w := D_eql ho hg hx hy (fun e => absurd e c) fun _ => h
theorem D_neqT (ho : ops[i]? = some ⟨some d, .binOp .neq xt x y yt, ty, pos, af, g⟩) (hg : BF ops f g = true) (hx : ev f x = .int k a) (hy : ev f y = .int k b) (c : ¬a = b) (h : Ba P ops Z K r S (upd f d (.bool true)) ds w) : Ba P ops Z K (.read i r) S f ds w := D_neq ho hg hx hy (fun _ => h) (fun e => absurd e c)
theorem D_neqF (ho : ops[i]? = some ⟨some d, .binOp .neq xt x y yt, ty, pos, af, g⟩) (hg : BF ops f g = true) (hx : ev f x = .int k a) (hy : ev f y = .int k b) (c : a = b) (h : Ba P ops Z K r S (upd f d (.bool false)) ds w) : Ba P ops Z K (.read i r) S f ds w := D_neq ho hg hx hy (fun e => absurd c e) fun _ => h
end
end Go.Proofs.YtkhhjdjmhbdjfaaGreatDoor
namespace Go.Proofs.YtkhhjdjmhbdjfaaGreatDoor
open Go.RowKit
variable {mk : Prop} [MK mk]
attribute [local semireducible] WC AX Bx BT Bu finQ finD Bw
variable {P : Program} {all : Array Oper} {Z : Fr → DS → List PanicEntry → World → Prop} {K : Fr → DS → World → Prop} {rest : List Oper} {f : Fr} {ds : DS} {w : World}
 {d : Nat} {ty : TypeId} {pos : String} {af : Array Edge}
def Lp (w : World) (l n : Nat) (ps : List Nat) (asn body : Code) (f : Fr) (st : LoopState) (pend : Option Code) : Prop :=
 ∃ fn tmps blk, w.heap[l]? = some (.loop ⟨st, pend, fn, tmps, ps.toArray, asn, body, blk⟩) ∧ tmps.size = n ∧ CJ { tmps := tmps, defers := [] } = f
theorem Lp.lt {l n : Nat} {ps : List Nat} {asn body : Code} {st : LoopState} {pend : Option Code} (h : Lp w l n ps asn body f st pend) : l < w.heap.size := by
 obtain ⟨_, _, _, h, _⟩ := h
 exact (Array.getElem?_eq_some_iff.1 h).1
theorem Lp.keep {X : List Nat} {w' : World} {l n : Nat} {ps : List Nat} {asn body : Code} {st : LoopState} {pend : Option Code} (h : Lp w l n ps asn body f st pend) (k : Keep X w w') (hl : l ∉ X) : Lp w' l n ps asn body f st pend := by
 have hlt := h.lt
 obtain ⟨fn, tmps, blk, h1, h2⟩ := h
 exact ⟨fn, tmps, blk, (k.block l hlt hl).trans h1, h2⟩
theorem run_getLoop {l : Nat} {r : Loop} (h : w.heap[l]? = some (.loop r)) : (Instr.getLoop l).run P w = .ok r w := by
 simp [Instr.getLoop, getObj, Sem.run, h]
def setO (w : World) (l : Nat) (o : Obj) : World := { w with heap := w.heap.setIfInBounds l o }
theorem run_setLoop {l : Nat} {r : Loop} (o : Obj) (h : w.heap[l]? = some (.loop r)) : (setObj l o).run P w = .ok () (setO w l o) := by
 simp [setObj, Sem.run, h, setO]
theorem setO_other (l : Nat) (o : Obj) (k : Nat) (hk : k ≠ l) : (setO w l o).heap[k]? = w.heap[k]? := by
 simp only [setO]; rw [Array.getElem?_setIfInBounds_ne (by simpa [eq_comm] using hk)]
theorem setO_keep (l : Nat) (o : Obj) (ho : ∀ c t fr, o ≠ .cells c t fr) : Keep [l] w (setO w l o) := by
 refine ⟨rfl, rfl, rfl, by simp [setO], fun k _ hk => setO_other l o k (by simpa using hk), fun _ => mark_put (g := l) (by simp [setO]) (setO_other l o) fun c t fr e => ?_, Nat.le_refl _⟩
 by_cases h : l < w.heap.size
 ·have : (setO w l o).heap[l]? = some o := by simp [setO, h]
  rw [this] at e
  cases e
  exact absurd rfl (ho c t fr)
 ·rw [Array.getElem?_eq_none (by simp [setO]; omega)] at e; cases e
theorem setO_size (l : Nat) (o : Obj) : (setO w l o).heap.size = w.heap.size := by simp [setO]
theorem setO_get {l : Nat} (o : Obj) (h : l < w.heap.size) : (setO w l o).heap[l]? = some o := by simp [setO, h]
def YldP (P : Program) (yv : Value) (args : List Value) (w : World) (R : Value → World → Prop) (Z : List PanicEntry → World → Prop) : Prop :=
 ∃ y g tmps asn body w1, yv = .func (.yield y) #[] #[] ∧ (Instr.yield y args.toArray).run P w = .ok (.round y g tmps asn body) w1 ∧
  RoundIn Fence.wide 0 P y g tmps asn body w1 fun e w'' => match e with | .returned v => R v w'' | .panicked ch => Z ch w'' | .outgrown => False
theorem YldP.mono {yv : Value} {args : List Value} {R R' : Value → World → Prop} {Y Y' : List PanicEntry → World → Prop} (h : YldP P yv args w R Y) (hr : ∀ v w', R v w' → R' v w') (hz : ∀ ch w', Y ch w' → Y' ch w') : YldP P yv args w R' Y' := by
 obtain ⟨y, g, tmps, asn, body, w1, h1, h2, h3⟩ := h
 refine ⟨y, g, tmps, asn, body, w1, h1, h2, RoundIn.mono h3 fun e w' he => ?_⟩
 cases e with
 | returned v => exact hr v w' he
 | panicked ch => exact hz ch w' he
 | outgrown => exact he
theorem W_yieldP {t : Nat} {yv : Value} {xs : List Operand} {ats : Array TypeId} {vs : List Value} {R : Value → World → Prop} {Y : List PanicEntry → World → Prop}
  (hf : f t = yv) (ha : evL f xs = vs) (hc : YldP P yv vs w R Y) (h : ∀ v w', R v w' → AX P all Z K rest (upd f d v) ds w') (hz : ∀ ch w', Y ch w' → Z f ds ch w') :
  AX P all Z K (⟨some d, .call ⟨.value (.tmp t), xs.toArray, ats⟩, ty, pos, af, none⟩ :: rest) f ds w := by
 obtain ⟨y, g, tmps, asn, body, w1, rfl, h2, h3⟩ := hc
 have hr : (execOp (ev f) ⟨some d, .call ⟨.value (.tmp t), xs.toArray, ats⟩, ty, pos, af, none⟩).run P w = .ok (.round y g tmps asn body) w1 := by
  rw [evL_map] at ha
  simp only [execOp, resolve, ev, hf, Deferred.ofValue, Sem.run_bind, Sem.run_pure, Result.andThen_ok, invoke]
  simp [ha, h2]
 unfold AX
 simp only [BF, if_true, Bw, hr]
 refine RoundIn.mono h3 fun e w' he => ?_
 cases e with
 | returned v => exact h v w' he
 | panicked ch => exact hz ch w' he
 | outgrown => exact he
theorem W_yield {t : Nat} {yv : Value} {xs : List Operand} {ats : Array TypeId} {vs : List Value} {R : Value → World → Prop}
  (hf : f t = yv) (ha : evL f xs = vs) (hc : YldP P yv vs w R fun _ _ => False) (h : ∀ v w', R v w' → AX P all Z K rest (upd f d v) ds w') :
  AX P all Z K (⟨some d, .call ⟨.value (.tmp t), xs.toArray, ats⟩, ty, pos, af, none⟩ :: rest) f ds w := W_yieldP hf ha hc h fun _ _ h => h.elim
def ovz : List (Nat × Value) → Fr → Fr
 | [], f => f
 | (t, v) :: l, f => ovz l (upd f t v)
theorem size_sets : ∀ (l : List (Nat × Value)) (tmps : Array Value), (l.foldl (fun tmps (p : Nat × Value) => tmps.setIfInBounds p.1 p.2) tmps).size = tmps.size
 | [], _ => rfl
 | _ :: l, tmps => by rw [List.foldl_cons, size_sets l]; simp
theorem toFr_sets : ∀ (l : List (Nat × Value)) (tmps : Array Value), (∀ p ∈ l, p.1 < tmps.size) →
  CJ { tmps := l.foldl (fun tmps (p : Nat × Value) => tmps.setIfInBounds p.1 p.2) tmps, defers := [] } = ovz l (CJ { tmps := tmps, defers := [] })
 | [], _, _ => rfl
 | (t, v) :: l, tmps, h => by
  rw [List.foldl_cons, toFr_sets l _ (by intro p hp; rw [Array.size_setIfInBounds]; exact h p (by simp [hp]))]
  simp only [ovz]
  congr 1
  exact toFr_put (a := { tmps := tmps, defers := [] }) (d := t) v (h (t, v) (by simp))
def rndQ (l n : Nat) (ps : List Nat) (asn body : Code) (f0 : Fr) (R : Value → World → Prop) : CX
 | .normal => fun _ _ w => (∃ st pd, Lp w l n ps asn body f0 st pd) ∧ ∀ w', Keep [l] w w' → w'.heap.size = w.heap.size → Lp w' l n ps asn body f0 .ready none → R (.bool true) w'
 | .ret => fun _ _ w => (∃ st pd, Lp w l n ps asn body f0 st pd) ∧ ∀ w', Keep [l] w w' → w'.heap.size = w.heap.size → Lp w' l n ps asn body f0 .done (some .ret) → R (.bool false) w'
 | .exit i => fun _ _ w => (∃ st pd, Lp w l n ps asn body f0 st pd) ∧ ∀ w', Keep [l] w w' → w'.heap.size = w.heap.size → Lp w' l n ps asn body f0 .done (some (.exit i)) → R (.bool false) w'
 | _ => fun _ _ _ => False
def asnQ (k : Fr → DS → World → Prop) : CX
 | .normal => k
 | _ => fun _ _ _ => False
theorem run_endRound {l n : Nat} {ps : List Nat} {asn body : Code} {f0 : Fr} {st : LoopState} {pd : Option Code} (jump : Option Code) (h : Lp w l n ps asn body f0 st pd) :
  ∃ w', (Instr.endRound l jump).run P w = .ok (.bool jump.isNone) w' ∧ Keep [l] w w' ∧ w'.heap.size = w.heap.size ∧ Lp w' l n ps asn body f0 (if jump.isNone then .ready else .done) jump := by
 have hlt := h.lt
 obtain ⟨fn, tmps, blk, h1, h2, h3⟩ := h
 refine ⟨setO w l _, ?_, setO_keep l _ (fun _ _ _ h => by cases h), setO_size l _, fn, tmps, blk, setO_get _ hlt, h2, h3⟩
 simp only [Instr.endRound, Sem.run_bind, run_getLoop h1, Result.andThen_ok, run_setLoop _ h1, Sem.run_pure]
theorem run_beginRound {l n : Nat} {ps : List Nat} {asn body : Code} {f0 : Fr} {pd : Option Code} (h : Lp w l n ps asn body f0 .ready pd) :
  ∃ w', (Instr.beginRound l).run P w = .ok () w' ∧ Keep [l] w w' ∧ w'.heap.size = w.heap.size ∧ Lp w' l n ps asn body f0 .busy pd := by
 have hlt := h.lt
 obtain ⟨fn, tmps, blk, h1, h2, h3⟩ := h
 refine ⟨setO w l _, ?_, setO_keep l _ (fun _ _ _ h => by cases h), setO_size l _, fn, tmps, blk, setO_get _ hlt, h2, h3⟩
 simp only [Instr.beginRound, Sem.run_bind, run_getLoop h1, Result.andThen_ok, run_setLoop _ h1, Sem.run_pure]
theorem yld_of_wc {l n : Nat} {ps : List Nat} {asn body : Code} {f0 : Fr} {pd : Option Code} {args : List Value} {R : Value → World → Prop} {Y : List PanicEntry → World → Prop} (hl : Lp w l n ps asn body f0 .ready pd)
  (hp : args.length = ps.length) (hps : ps.all (fun t => Nat.blt t n) = true) (hok : (Bz n true asn && Bz n true body) = true)
  (h : WC P ⟨n, some l⟩ asn (asnQ fun f' ds' w' => Lp w' l n ps asn body f0 .ready none ∧ ∀ w2, Keep [l] w' w2 → w2.heap.size = w'.heap.size → (∃ st pd', Lp w2 l n ps asn body f0 st pd') → WC P ⟨n, some l⟩ body (rndQ l n ps asn body f0 R) f' ds' w2) (ovz (ps.zip args) f0) [] w) :
  YldP P (.func (.yield l) #[] #[]) args w R Y := by
 obtain ⟨fn, tmps, blk, h1, h2, h3⟩ := hl
 have hsz : ¬ args.toArray.size ≠ ps.toArray.size := by simp [hp]
 refine ⟨l, fn, ((ps.zip args).foldl (fun tmps (p : Nat × Value) => tmps.setIfInBounds p.1 p.2) tmps), asn, body, w, rfl, ?_, ?_⟩
 ·simp only [Instr.yield, Sem.run_bind, run_getLoop h1, Result.andThen_ok, if_neg hsz, Sem.run_pure]
  congr 2
  rw [← Array.foldl_toList]
  simp
 ·simp only [Bool.and_eq_true] at hok
  refine RoundIn.mono (R := endR R Y) (roundIn_of_wpIn (F := Fence.wide) trivial ?_) (fun e w'' he => by cases e <;> exact he)
  have hq : (ps.zip args).foldl (fun tmps (p : Nat × Value) => tmps.setIfInBounds p.1 p.2) tmps = (ps.zip args).foldl (fun tmps (p : Nat × Value) => tmps.setIfInBounds p.1 p.2) tmps := rfl
  have hF : Fence.wide.inRound l = rnd (some l) := rfl
  rw [hF]
  refine wpIn_mono (B0 (P := P) (n := ⟨n, some l⟩) asn _ _ w ?_ hok.1 (by
   rw [toFr_sets, h3]
   ·exact h
   ·intro p hp'
    have := List.all_eq_true.1 hps p.1 (List.of_mem_zip hp').1
    rw [h2]; simpa [Nat.blt_eq] using this)) ?_
  ·simp only [size_sets]; exact h2
  ·intro e a w' hq
   obtain ⟨hn, hq⟩ := hq
   cases e with
   | normal =>
    obtain ⟨hr, hb⟩ := hq
    obtain ⟨w2, hb1, hb2, hb3, hb4⟩ := run_beginRound (P := P) hr
    refine ⟨w2, hb1, ?_⟩
    refine wpIn_mono (B0 (P := P) (n := ⟨n, some l⟩) body _ a w2 hn hok.2 (hb w2 hb2 hb3 ⟨_, _, hb4⟩)) ?_
    intro e a' w3 hq
    obtain ⟨_, hq⟩ := hq
    cases e with
    | normal =>
     obtain ⟨⟨st, pd3, hl3⟩, hk⟩ := hq
     obtain ⟨w4, e1, e2, e3, e4⟩ := run_endRound (P := P) none hl3
     exact ⟨_, w4, e1, hk w4 e2 e3 e4⟩
    | ret =>
     obtain ⟨⟨st, pd3, hl3⟩, hk⟩ := hq
     obtain ⟨w4, e1, e2, e3, e4⟩ := run_endRound (P := P) (some .ret) hl3
     exact ⟨_, w4, e1, hk w4 e2 e3 e4⟩
    | exit i =>
     obtain ⟨⟨st, pd3, hl3⟩, hk⟩ := hq
     obtain ⟨w4, e1, e2, e3, e4⟩ := run_endRound (P := P) (some (.exit i)) hl3
     exact ⟨_, w4, e1, hk w4 e2 e3 e4⟩
    | goto _ => exact hq.elim
    | panic _ => exact hq.elim
    | outgrown => exact hq.elim
   | _ => exact hq.elim
def behind (Q : CX) (f : Fr) (ds : DS) (w : World) : Option Code → Prop
 | none => Q .normal f ds w
 | some .ret => Q .ret f ds w
 | some (.exit i) => Q (.exit i) f ds w
 | _ => False
theorem run_endLoop {l n : Nat} {ps : List Nat} {asn body : Code} {f0 : Fr} {st : LoopState} {pd : Option Code} (hst : (st == .busy) = false) (h : Lp w l n ps asn body f0 st pd) :
  ∃ w', (Instr.endLoop l).run P w = .ok pd w' ∧ Keep [l] w w' ∧ w'.heap.size = w.heap.size := by
 obtain ⟨fn, tmps, blk, h1, h2, h3⟩ := h
 refine ⟨setO w l (.loop ⟨.exhausted, pd, fn, tmps, ps.toArray, asn, body, blk⟩), ?_, setO_keep l _ (fun _ _ _ h => by cases h), setO_size l _⟩
 simp only [Instr.endLoop, Sem.run_bind, run_getLoop h1, Result.andThen_ok, hst, Bool.false_eq_true, if_false, run_setLoop _ h1, Sem.run_pure]
theorem C_rangeFunc {n : Nat} {Q : CX} {g : Operand} {ps : List Nat} {asn body : Code} {gf : FuncId} {v1 v2 : List Value} [hg : AS P gf] (hv : ev f g = .func (.func gf) v1.toArray v2.toArray)
  (h : ∀ w1, Ext w w1 → w1.heap.size = w.heap.size + 2 → w1.heap[w.heap.size]? = some (.deferred (some [])) → Lp w1 (w.heap.size + 1) n ps asn body f .ready none →
   FnP P gf (v1 ++ [.func (.yield (w.heap.size + 1)) #[] #[]] ++ v2) w1
    (fun _ w3 => ∃ st pd, Lp w3 (w.heap.size + 1) n ps asn body f st pd ∧ (st == .busy) = false ∧
     ∀ w4, Keep [w.heap.size + 1] w3 w4 → w4.heap.size = w3.heap.size → behind Q f ({ target := .collected w.heap.size, args := #[] } :: ds) w4 pd)
    (fun ch w3 => Q (.panic ch) f ({ target := .collected w.heap.size, args := #[] } :: ds) w3)) :
  WC P ⟨n, none⟩ (.rangeFunc g ps.toArray asn body) Q f ds w := by
 rintro a hn rfl rfl
 obtain ⟨fn, g1, g2, g3⟩ := hg.out
 refine wpIn_rangeFunc fun fn0 _ => ?_
 have he := ev_toFr a
 let w1 : World := (w.alloc (.deferred (some []))).alloc (.loop ⟨.ready, none, fn0, a.tmps, ps.toArray, asn, body, w.heap.size⟩)
 have k1 : Ext w w1 := ⟨rfl, rfl, rfl, by simp [w1]; omega, fun k hk _ => by
  have := heap_alloc_old w (.deferred (some [])) hk
  rw [← this]
  exact heap_alloc_old _ _ (by simp; omega), fun _ b hb => mark_new (w := w.alloc (.deferred (some []))) (by simp [w1]) (fun k hk => heap_alloc_old _ _ hk) (fun c t fr e => by rw [heap_alloc_new] at e; cases e) b fun _ =>
   mark_new (w := w) (by simp) (fun k hk => heap_alloc_old _ _ hk) (fun c t fr e => by rw [heap_alloc_new] at e; cases e) b hb, Nat.le_refl _⟩
 have s1 : w1.heap.size = w.heap.size + 2 := by simp [w1]
 have d1 : w1.heap[w.heap.size]? = some (.deferred (some [])) := by
  have := heap_alloc_new w (.deferred (some []))
  rw [← this]
  exact heap_alloc_old _ _ (by simp)
 have l1 : w1.heap[w.heap.size + 1]? = some (.loop ⟨.ready, none, fn0, a.tmps, ps.toArray, asn, body, w.heap.size⟩) := by
  have := heap_alloc_new (w.alloc (.deferred (some []))) (.loop ⟨.ready, none, fn0, a.tmps, ps.toArray, asn, body, w.heap.size⟩)
  simpa [w1] using this
 refine ⟨w.heap.size + 1, [{ target := .collected w.heap.size, args := #[] }], w1, { target := .fn (.func gf) v2.toArray, args := v1.toArray ++ #[Value.func (.yield (w.heap.size + 1)) #[] #[]] }, w1, gf, (v1 ++ [Value.func (.yield (w.heap.size + 1)) #[] #[]] ++ v2).toArray, w1, ?_, ?_, fun _ _ => trivial, ?_, rnd_depth, ?_⟩
 ·have e1 : ∀ o (w : World), (newObj o).run P w = .ok w.heap.size (w.alloc o) := fun _ _ => rfl
  simp only [Instr.enterLoop, rnd, Sem.run_bind, e1, Sem.run_pure, Result.andThen_ok, w1]
  simp
 ·rw [he]
  have ec : ∀ v, ev (CJ a) (.const v) = v := fun _ => rfl
  simp [resolve, hv, ec, Deferred.ofValue]
 ·simp only [invoke, callFunc, program]
  simp [Sem.run, g1, g2, g3]
 ·have hf := h w1 k1 s1 d1 ⟨fn0, a.tmps, _, l1, hn, rfl⟩
  have hc : CallsIn Fence.wide (0 - 1) P gf _ w1 _ := callsIn_wide.2 hf
  refine CallsIn.mono (F := rnd none) hc fun e w3 he => ?_
  cases e with
  | returned v =>
   obtain ⟨st, pd, h1, h2, h3⟩ := he
   obtain ⟨w4, e1, e2, e3⟩ := run_endLoop (P := P) h2 h1
   refine ⟨pd, w4, e1, ?_⟩
   have hb := h3 w4 e2 e3
   cases pd with
   | none => exact ⟨hn, hb⟩
   | some c =>
    cases c with
    | ret => exact wpIn_ret ⟨hn, hb⟩
    | exit i => exact wpIn_exit ⟨hn, hb⟩
    | _ => exact hb.elim
  | panicked ch => exact ⟨hn, he⟩
  | outgrown => exact he.elim
def rndA (l : Nat) (Rdy Bsy : World → Prop) (Don : Code → World → Prop) (R : Value → World → Prop) : CX
 | .normal => fun _ _ w => Bsy w ∧ ∀ w', Keep [l] w w' → w'.heap.size = w.heap.size → Rdy w' → R (.bool true) w'
 | .ret => fun _ _ w => Bsy w ∧ ∀ w', Keep [l] w w' → w'.heap.size = w.heap.size → Don .ret w' → R (.bool false) w'
 | .exit i => fun _ _ w => Bsy w ∧ ∀ w', Keep [l] w w' → w'.heap.size = w.heap.size → Don (.exit i) w' → R (.bool false) w'
 | _ => fun _ _ _ => False
theorem Q_asn {k : Fr → DS → World → Prop} (h : k f ds w) : asnQ k .normal f ds w := h
theorem Q_rnd {l : Nat} {Rdy Bsy : World → Prop} {Don : Code → World → Prop} {R : Value → World → Prop} (hb : Bsy w) (h : ∀ w', Keep [l] w w' → w'.heap.size = w.heap.size → Rdy w' → R (.bool true) w') : rndA l Rdy Bsy Don R .normal f ds w := ⟨hb, h⟩
theorem Q_rnd_ret {l : Nat} {Rdy Bsy : World → Prop} {Don : Code → World → Prop} {R : Value → World → Prop} (hb : Bsy w) (h : ∀ w', Keep [l] w w' → w'.heap.size = w.heap.size → Don .ret w' → R (.bool false) w') : rndA l Rdy Bsy Don R .ret f ds w := ⟨hb, h⟩
theorem Q_rnd_exit {l i : Nat} {Rdy Bsy : World → Prop} {Don : Code → World → Prop} {R : Value → World → Prop} (hb : Bsy w) (h : ∀ w', Keep [l] w w' → w'.heap.size = w.heap.size → Don (.exit i) w' → R (.bool false) w') : rndA l Rdy Bsy Don R (.exit i) f ds w := ⟨hb, h⟩
structure Loops (P : Program) (n l : Nat) (ps : List Nat) (asn body : Code) (f : Fr) (Rdy Bsy : World → Prop) (Don : Code → World → Prop) : Prop where
 rdy : ∀ {X : List Nat} {w w' : World}, Rdy w → Keep X w w' → l ∉ X → Rdy w'
 bsy : ∀ {X : List Nat} {w w' : World}, Bsy w → Keep X w w' → l ∉ X → Bsy w'
 don : ∀ {X : List Nat} {w w' : World} {c : Code}, Don c w → Keep X w w' → l ∉ X → Don c w'
 lt : ∀ {w : World}, Rdy w → l < w.heap.size
 nocell : ∀ {w : World}, Rdy w → ∀ o, w.cell? ⟨l, o, none⟩ = none
 round : ∀ {args : List Value} {R : Value → World → Prop} {Y : List PanicEntry → World → Prop} {w : World}, Rdy w → args.length = ps.length →
  WC P ⟨n, some l⟩ asn (asnQ fun f' ds' w' => Rdy w' ∧ ∀ w2, Keep [l] w' w2 → w2.heap.size = w'.heap.size → Bsy w2 → WC P ⟨n, some l⟩ body (rndA l Rdy Bsy Don R) f' ds' w2) (ovz (ps.zip args) f) [] w →
  YldP P (.func (.yield l) #[] #[]) args w R Y
theorem C_range {n : Nat} {Q : CX} {g : Operand} {ps : List Nat} {asn body : Code} {gf : FuncId} (v1 v2 : List Value) [hg : AS P gf] (hv : ev f g = .func (.func gf) v1.toArray v2.toArray)
  (hps : (ps.all (fun t => Nat.blt t n) && (Bz n true asn && Bz n true body)) = true)
  (h : ∀ (Rdy Bsy : World → Prop) (Don : Code → World → Prop) (w1 : World), Loops P n (w.heap.size + 1) ps asn body f Rdy Bsy Don → Ext w w1 → w1.heap.size = w.heap.size + 2 → w1.heap[w.heap.size]? = some (.deferred (some [])) → Rdy w1 →
   Fn P gf (v1 ++ [.func (.yield (w.heap.size + 1)) #[] #[]] ++ v2) w1
    (fun _ w3 => (Rdy w3 ∧ ∀ w4, Keep [w.heap.size + 1] w3 w4 → w4.heap.size = w3.heap.size → Q .normal f ({ target := .collected w.heap.size, args := #[] } :: ds) w4) ∨
     ∃ c, Don c w3 ∧ ∀ w4, Keep [w.heap.size + 1] w3 w4 → w4.heap.size = w3.heap.size → behind Q f ({ target := .collected w.heap.size, args := #[] } :: ds) w4 (some c))) :
  WC P ⟨n, none⟩ (.rangeFunc g ps.toArray asn body) Q f ds w := by
 simp only [Bool.and_eq_true] at hps
 refine C_rangeFunc hv fun w1 k1 s1 d1 l1 => ?_
 refine FnP.mono (h (fun w' => Lp w' (w.heap.size + 1) n ps asn body f .ready none) (fun w' => ∃ st pd, Lp w' (w.heap.size + 1) n ps asn body f st pd) (fun c w' => Lp w' (w.heap.size + 1) n ps asn body f .done (some c)) w1
  ⟨fun a b c => a.keep b c, fun ⟨st, pd, a⟩ b c => ⟨st, pd, a.keep b c⟩, fun a b c => a.keep b c, fun a => a.lt, (fun a o => by obtain ⟨_, _, _, e, _⟩ := a; simp [World.cell?, e]), fun {args R Y w'} hr hl hw => ?_⟩ k1 s1 d1 l1) ?_ (fun _ _ hh => hh.elim)
 ·have e : rndA (w.heap.size + 1) (fun w' => Lp w' (w.heap.size + 1) n ps asn body f .ready none) (fun w' => ∃ st pd, Lp w' (w.heap.size + 1) n ps asn body f st pd) (fun c w' => Lp w' (w.heap.size + 1) n ps asn body f .done (some c)) R = rndQ (w.heap.size + 1) n ps asn body f R := by
   funext e; cases e <;> rfl
  rw [e] at hw
  refine yld_of_wc hr hl hps.1 (by rw [Bool.and_eq_true]; exact hps.2) ?_
  exact hw
 ·rintro v w3 (⟨a, b⟩ | ⟨c, a, b⟩)
  ·exact ⟨_, _, a, rfl, fun w4 x y => b w4 x y⟩
  ·exact ⟨_, _, a, rfl, fun w4 x y => b w4 x y⟩
theorem CK {g : FuncId} {fn : Func} {c : Code} {args : List Value} {R : Value → World → Prop} (hf : P.funcs[g]? = some fn) (hb : fn.body = some c) {n : Nat} (hn : fn.ntmps = n) (hl : args.length ≤ n) (hok : Bz n false c = true)
  (h : WC P ⟨n, none⟩ c (finD P fn R fun _ _ => False) (argF args) [] w) : Fn P g args w R := fnD_of_wc hf hb hn hl hok h
theorem takeDeferred_ok {b : Nat} (h : w.heap[b]? = some (.deferred (some []))) : ∃ w', (Instr.takeDeferred b).run P w = .ok [] w' ∧ Keep [b] w w' ∧ w'.heap.size = w.heap.size := by
 refine ⟨setO w b (.deferred none), ?_, setO_keep b _ (fun _ _ _ h => by cases h), setO_size b _⟩
 simp [Instr.takeDeferred, getObj, setObj, Sem.run, h, setO]
section
variable {fn : Func} {R : Value → World → Prop} {Y : List PanicEntry → World → Prop} {t u v b : Nat}
theorem finD_ret1 (hr : fn.results.toList = [.tmp t]) (h : R (f t) w) : finD P fn R Y .ret f [] w := by
 simp only [finD, lv, hr]; exact h
theorem Bl {a : Array Value} (hb : w.heap[b]? = some (.deferred (some []))) (h : ∀ w', Keep [b] w w' → w'.heap.size = w.heap.size → finD P fn R Y .ret f ds w') : finD P fn R Y .ret f ({ target := .collected b, args := a } :: ds) w := by
 obtain ⟨w', h1, h2, h3⟩ := takeDeferred_ok (P := P) hb
 simp only [finD]
 refine ⟨by simp, .inl ⟨b, w', rfl, h1, h w' h2 h3⟩⟩
end
attribute [irreducible] asnQ rndA rndQ YldP
end Go.Proofs.YtkhhjdjmhbdjfaaGreatDoor
namespace Go.Proofs.YtkhhjdjmhbdjfaaGreatDoor
open Go.RowKit
variable {mk : Prop} [MK mk]
attribute [local semireducible] WC AX Bx BT Bu finQ finD Bw
variable {P : Program} {all : Array Oper} {Z : Fr → DS → List PanicEntry → World → Prop} {K : Fr → DS → World → Prop} {rest : List Oper} {f : Fr} {ds : DS} {w : World}
 {d : Nat} {ty : TypeId} {pos : String} {af : Array Edge}
end Go.Proofs.YtkhhjdjmhbdjfaaGreatDoor
namespace Go.Proofs.YtkhhjdjmhbdjfaaGreatDoor
variable {mk : Prop} [MK mk]
variable {P : Program} {T : TypeId}
theorem Bb {n : Nat} (h : (P.info? T).map (·.size) = some n) : CM P T n := by
 obtain ⟨i, hi, hs⟩ := Option.map_eq_some_iff.1 h
 exact ⟨i, hi, hs⟩
theorem aggT_of {n : Nat} {d : TypeDesc} (hu : P.underlying T = some d) (hd : aggD d = true) (h : (P.info? T).map (·.size) = some n) : AggT P T n := by
 obtain ⟨i, hi, hs⟩ := Option.map_eq_some_iff.1 h
 exact ⟨⟨d, hu, hd⟩, i, hi, hs⟩
theorem Bi {z : Value} {L : List Value} (h : (P.info? T).map (·.zero) = some (some z)) (hz : z.cells = L.toArray) : Cb P T L := by
 obtain ⟨i, hi, hs⟩ := Option.map_eq_some_iff.1 h
 exact ⟨i, z, hi, hs, hz⟩
theorem slT_of {e size bytes : Nat} {z : Value} (hu : P.underlying T = some (.slice e)) (h : (P.info? e).map (fun i => (i.zero, i.size, i.bytes)) = some (some z, size, bytes)) : SlT P T e size bytes z := by
 obtain ⟨i, hi, hzz⟩ := Option.map_eq_some_iff.1 h
 simp only [Prod.mk.injEq] at hzz
 exact ⟨hu, i, hi, hzz.1, hzz.2.1, hzz.2.2⟩
theorem arrT_of {len e size : Nat} (hu : P.underlying T = some (.array len e)) (h : (P.info? e).map (·.size) = some size) : ArrT P T len e size := by
 obtain ⟨i, hi, hs⟩ := Option.map_eq_some_iff.1 h
 exact ⟨hu, i, hi, hs⟩
theorem Ay {i off : Nat} {ft : TypeId} {fs : Array Field} {fld : Field} {s : Nat} (hu : P.underlying T = some (.struct fs)) (hf : fs[i]? = some fld) (ho : fld.offset = off) (ht : fld.type = ft) (h : (P.info? ft).map (·.size) = some (s + 1)) : BN P T i off ft := by
 obtain ⟨j, hj, hs⟩ := Option.map_eq_some_iff.1 h
 exact ⟨fs, fld, hu, hf, ho, ht, j, hj, by omega⟩
theorem AN {g : FuncId} {fn : Func} (h1 : P.funcs[g]? = some fn) (h2 : (fn.name == "runtime.NumGoroutine") = false) (h3 : fn.body.isNone = false) : AS P g := by
 refine ⟨fn, h1, fun e => ?_, fun e => ?_⟩
 ·rw [e] at h2; simp at h2
 ·rw [e] at h3; simp at h3
theorem places_run : ∀ (fs : List Field) (places : List (Nat × Nat)), fs.map (fun f => (f.offset, (P.info? f.type).map (·.size))) = places.map (fun p => (p.1, some p.2)) →
  ∀ w, (fs.mapM (m := Sem) fun f => do pure (f.offset, ← sizeOf f.type)).run P w = .ok places w
 | [], [], _, w => by simp
 | [], _ :: _, h, _ => by simp at h
 | _ :: _, [], h, _ => by simp at h
 | f :: fs, p :: places, h, w => by
  simp only [List.map_cons, List.cons.injEq, Prod.mk.injEq] at h
  obtain ⟨⟨h1, h2⟩, h3⟩ := h
  obtain ⟨i, hi, hs⟩ := Option.map_eq_some_iff.1 h2
  have ih := places_run fs places h3 w
  have hsz : (sizeOf f.type).run P w = .ok p.2 w := by simp [sizeOf, typeInfo, hi, hs]
  simp only [List.mapM_cons, Sem.run_bind, hsz, Sem.run_pure, Result.andThen_ok]
  rw [ih]
  simp [h1]
theorem stT_of {fs : Array Field} {z : Value} {places : List (Nat × Nat)} {zero : List Value} (hu : P.underlying T = some (.struct fs)) (h : (P.info? T).map (·.zero) = some (some z)) (hz : z.cells = zero.toArray)
  (hp : fs.toList.map (fun f => (f.offset, (P.info? f.type).map (·.size))) = places.map (fun p => (p.1, some p.2))) : StT P T places zero := by
 obtain ⟨i, hi, hs⟩ := Option.map_eq_some_iff.1 h
 refine ⟨fs, i, z, hu, hi, hs, hz, fun w => ?_⟩
 have := places_run fs.toList places hp w
 rw [Array.mapM_eq_mapM_toList]
 have hm : ∀ (x : Sem (List (Nat × Nat))), (Functor.map List.toArray x : Sem (Array (Nat × Nat))) = x >>= fun l => pure l.toArray := fun _ => rfl
 rw [hm, Sem.run_bind, this]
 simp
end Go.Proofs.YtkhhjdjmhbdjfaaGreatDoor
namespace Go.Proofs.YtkhhjdjmhbdjfaaGreatDoor
open Go.RowKit
variable {mk : Prop} [MK mk]
attribute [local semireducible] WC AX Bx BT Bu finQ finD Bw
variable {P : Program} {all : Array Oper} {Z : Fr → DS → List PanicEntry → World → Prop} {K : Fr → DS → World → Prop} {rest : List Oper} {f : Fr} {ds : DS} {w : World}
 {d : Nat} {ty : TypeId} {pos : String} {af : Array Edge}
theorem Ac {T bt : TypeId} {a : Operand} {b n : Nat} {L : List Value} [hT : AggT P T n] (ha : ev f a = .pointer (some ⟨b, 0, none⟩)) (hb : Blk w b bt L) (hl : L.length = n)
  (h : AX P all Z K rest (upd f d (.agg L.toArray)) ds w) : AX P all Z K (⟨some d, .load T a, ty, pos, af, none⟩ :: rest) f ds w := Ao ha hl hb.cells h
class BoolT (P : Program) (T : TypeId) : Prop where
 out : P.underlying T = some .bool
theorem run_equal_bool {T : TypeId} [hT : BoolT P T] (a b : Bool) : (Op.equal T (.bool a) (.bool b)).run P w = .ok (a == b) w := by
 unfold Op.equal
 rw [show Op.maxDepth = 9999 + 1 from rfl, run_equalIn_bool' w 9999 T a b hT.out]
theorem W_beql {T yt : TypeId} {x y : Operand} {a b : Bool} [hT : BoolT P T] (hx : ev f x = .bool a) (hy : ev f y = .bool b) (h : AX P all Z K rest (upd f d (.bool (a == b))) ds w) : AX P all Z K (⟨some d, .binOp .eql T x y yt, ty, pos, af, none⟩ :: rest) f ds w := by
 refine BB rfl ?_ h
 simp [execOp, hx, hy, eqGuard, binOp, run_equal_bool]
theorem W_bneq {T yt : TypeId} {x y : Operand} {a b : Bool} [hT : BoolT P T] (hx : ev f x = .bool a) (hy : ev f y = .bool b) (h : AX P all Z K rest (upd f d (.bool (a != b))) ds w) : AX P all Z K (⟨some d, .binOp .neq T x y yt, ty, pos, af, none⟩ :: rest) f ds w := by
 refine BB rfl ?_ h
 simp [execOp, hx, hy, eqGuard, binOp, run_equal_bool, bne]
end Go.Proofs.YtkhhjdjmhbdjfaaGreatDoor
namespace Go.Proofs.YtkhhjdjmhbdjfaaGreatDoor
open Go.RowKit
variable {mk : Prop} [MK mk]
attribute [local semireducible] WC AX Bx BT Bu finQ finD Bw
section
variable {P : Program} {all : Array Oper} {Z : Fr → DS → List PanicEntry → World → Prop} {K : Fr → DS → World → Prop} {rest : List Oper} {f : Fr} {ds : DS} {w : World}
 {d : Nat} {ty : TypeId} {pos : String} {af : Array Edge}
theorem AH {x : Operand} {a : Addr} (hx : ev f x = .pointer (some a)) (h : AX P all Z K rest (upd f d (.pointer (some a))) ds w) :
  AX P all Z K (⟨some d, .nilCheck x, ty, pos, af, none⟩ :: rest) f ds w :=
 BB rfl (by simp [execOp, hx]) h
theorem BK {xt : TypeId} {x i : Operand} {k : IntKind} {s : List UInt8} {j : Nat} {c : UInt8} [hT : StrT P xt] (hx : ev f x = An s) (hi : ev f i = .int k (j : Int)) (hc : s[j]? = some c) (h : AX P all Z K rest (upd f d (enc8 c)) ds w) :
  AX P all Z K (⟨some d, .index xt x i, ty, pos, af, none⟩ :: rest) f ds w :=
 W_sindex hx hi (by omega) (by simpa using hc) h
theorem W_vidx1 {T len e : Nat} {x i : Operand} {k : IntKind} {L : List Value} {j : Nat} {v : Value} [hT : ArrT P T len e 1] [he : DA P e] (hx : ev f x = .agg L.toArray) (hi : ev f i = .int k (j : Int)) (hj : j < len) (hv : L[j]? = some v)
  (h : AX P all Z K rest (upd f d v) ds w) : AX P all Z K (⟨some d, .index T x i, ty, pos, af, none⟩ :: rest) f ds w := by
 refine BB rfl ?_ h
 obtain ⟨q, hq, hs⟩ := hT.out
 obtain ⟨dd, h1, h2⟩ := he.out
 have ha : (isAgg e).run P w = .ok false w := by
  simp only [isAgg, Sem.run_bind, run_underlying h1, Result.andThen_ok]
  cases dd <;> simp_all [aggD]
 have hp : (part e L.toArray j).run P w = .ok v w := by
  simp only [part, Sem.run_bind, ha, Result.andThen_ok]
  simp [hv]
 simp only [execOp, hx, hi, Instr.index, asIntOf, Sem.run_bind, Sem.run_pure, Result.andThen_ok, run_underlying hT.und]
 have c : (0 : Int) ≤ (j : Int) ∧ (j : Int) < (len : Int) := by omega
 simp [hj, sizeOf, typeInfo, hq, hs, hp]
end
end Go.Proofs.YtkhhjdjmhbdjfaaGreatDoor
namespace Go.Proofs.YtkhhjdjmhbdjfaaGreatDoor
instance : BoolT Tryz.prog 4 := ⟨Tryz.underlying4⟩
instance : BN Tryz.prog 104 0 0 22 := Ay (s := 0) Tryz.underlying104 rfl rfl rfl (by kernel_rfl)
instance : BN Tryz.prog 104 1 1 102 := Ay (s := 0) Tryz.underlying104 rfl rfl rfl (by kernel_rfl)
instance : BN Tryz.prog 104 2 2 3 := Ay (s := 0) Tryz.underlying104 rfl rfl rfl (by kernel_rfl)
instance : BN Tryz.prog 104 3 3 3 := Ay (s := 0) Tryz.underlying104 rfl rfl rfl (by kernel_rfl)
instance : BN Tryz.prog 104 4 4 3 := Ay (s := 0) Tryz.underlying104 rfl rfl rfl (by kernel_rfl)
instance : BN Tryz.prog 107 0 0 3 := Ay (s := 0) Tryz.underlying107 rfl rfl rfl (by kernel_rfl)
instance : BN Tryz.prog 107 1 1 4 := Ay (s := 0) Tryz.underlying107 rfl rfl rfl (by kernel_rfl)
instance : BN Tryz.prog 113 0 0 23 := Ay (s := 0) Tryz.underlying113 rfl rfl rfl (by kernel_rfl)
instance : BN Tryz.prog 113 1 1 23 := Ay (s := 0) Tryz.underlying113 rfl rfl rfl (by kernel_rfl)
instance : BN Tryz.prog 121 0 0 3 := Ay (s := 0) Tryz.underlying121 rfl rfl rfl (by kernel_rfl)
instance : BN Tryz.prog 121 1 1 3 := Ay (s := 0) Tryz.underlying121 rfl rfl rfl (by kernel_rfl)
instance : BN Tryz.prog 121 2 2 3 := Ay (s := 0) Tryz.underlying121 rfl rfl rfl (by kernel_rfl)
instance : BN Tryz.prog 121 3 3 3 := Ay (s := 0) Tryz.underlying121 rfl rfl rfl (by kernel_rfl)
instance : BN Tryz.prog 121 4 4 4 := Ay (s := 0) Tryz.underlying121 rfl rfl rfl (by kernel_rfl)
instance : BN Tryz.prog 121 5 5 4 := Ay (s := 0) Tryz.underlying121 rfl rfl rfl (by kernel_rfl)
instance : BN Tryz.prog 121 6 6 4 := Ay (s := 0) Tryz.underlying121 rfl rfl rfl (by kernel_rfl)
instance : BN Tryz.prog 121 7 7 4 := Ay (s := 0) Tryz.underlying121 rfl rfl rfl (by kernel_rfl)
instance : BN Tryz.prog 149 0 0 50 := Ay (s := 0) Tryz.underlying149 rfl rfl rfl (by kernel_rfl)
instance : BN Tryz.prog 149 1 1 4 := Ay (s := 0) Tryz.underlying149 rfl rfl rfl (by kernel_rfl)
instance : BN Tryz.prog 25 0 0 3 := Ay (s := 0) Tryz.underlying25 rfl rfl rfl (by kernel_rfl)
instance : BN Tryz.prog 25 1 1 9 := Ay (s := 0) Tryz.underlying25 rfl rfl rfl (by kernel_rfl)
instance : BN Tryz.prog 25 2 2 3 := Ay (s := 0) Tryz.underlying25 rfl rfl rfl (by kernel_rfl)
instance : BN Tryz.prog 25 3 3 3 := Ay (s := 0) Tryz.underlying25 rfl rfl rfl (by kernel_rfl)
instance : BN Tryz.prog 25 4 4 23 := Ay (s := 0) Tryz.underlying25 rfl rfl rfl (by kernel_rfl)
instance : BN Tryz.prog 45 0 0 26 := Ay (s := 0) Tryz.underlying45 rfl rfl rfl (by kernel_rfl)
instance : BN Tryz.prog 45 1 1 26 := Ay (s := 0) Tryz.underlying45 rfl rfl rfl (by kernel_rfl)
instance : BN Tryz.prog 70 0 0 9 := Ay (s := 0) Tryz.underlying70 rfl rfl rfl (by kernel_rfl)
instance : BN Tryz.prog 70 1 1 4 := Ay (s := 0) Tryz.underlying70 rfl rfl rfl (by kernel_rfl)
instance : BN Tryz.prog 70 2 2 3 := Ay (s := 0) Tryz.underlying70 rfl rfl rfl (by kernel_rfl)
instance : BN Tryz.prog 87 0 0 22 := Ay (s := 0) Tryz.underlying87 rfl rfl rfl (by kernel_rfl)
instance : BN Tryz.prog 87 1 1 26 := Ay (s := 0) Tryz.underlying87 rfl rfl rfl (by kernel_rfl)
instance : BN Tryz.prog 87 2 2 23 := Ay (s := 0) Tryz.underlying87 rfl rfl rfl (by kernel_rfl)
instance : BN Tryz.prog 87 3 3 3 := Ay (s := 0) Tryz.underlying87 rfl rfl rfl (by kernel_rfl)
instance : BN Tryz.prog 98 0 0 22 := Ay (s := 0) Tryz.underlying98 rfl rfl rfl (by kernel_rfl)
instance : BN Tryz.prog 98 1 1 26 := Ay (s := 0) Tryz.underlying98 rfl rfl rfl (by kernel_rfl)
instance : BN Tryz.prog 98 2 2 95 := Ay (s := 0) Tryz.underlying98 rfl rfl rfl (by kernel_rfl)
instance : BN Tryz.prog 98 3 3 96 := Ay (s := 0) Tryz.underlying98 rfl rfl rfl (by kernel_rfl)
instance : IntT Tryz.prog 174 .u64 := ⟨Tryz.underlying174⟩
instance : IntT Tryz.prog 3 .i64 := ⟨Tryz.underlying3⟩
instance : DA Tryz.prog 101 := ⟨_, Tryz.underlying101, rfl⟩
instance : DA Tryz.prog 102 := ⟨_, Tryz.underlying102, rfl⟩
instance : AggT Tryz.prog 121 8 := aggT_of Tryz.underlying121 rfl (by kernel_rfl)
instance : DA Tryz.prog 127 := ⟨_, Tryz.underlying127, rfl⟩
instance : DA Tryz.prog 136 := ⟨_, Tryz.underlying136, rfl⟩
instance : DA Tryz.prog 138 := ⟨_, Tryz.underlying138, rfl⟩
instance : DA Tryz.prog 147 := ⟨_, Tryz.underlying147, rfl⟩
instance : AggT Tryz.prog 149 2 := aggT_of Tryz.underlying149 rfl (by kernel_rfl)
instance : DA Tryz.prog 150 := ⟨_, Tryz.underlying150, rfl⟩
instance : DA Tryz.prog 151 := ⟨_, Tryz.underlying151, rfl⟩
instance : AggT Tryz.prog 154 10 := aggT_of Tryz.underlying154 rfl (by kernel_rfl)
instance : DA Tryz.prog 165 := ⟨_, Tryz.underlying165, rfl⟩
instance : DA Tryz.prog 22 := ⟨_, Tryz.underlying22, rfl⟩
instance : DA Tryz.prog 23 := ⟨_, Tryz.underlying23, rfl⟩
instance : AggT Tryz.prog 25 5 := aggT_of Tryz.underlying25 rfl (by kernel_rfl)
instance : DA Tryz.prog 26 := ⟨_, Tryz.underlying26, rfl⟩
instance : DA Tryz.prog 3 := ⟨_, Tryz.underlying3, rfl⟩
instance : DA Tryz.prog 4 := ⟨_, Tryz.underlying4, rfl⟩
instance : AggT Tryz.prog 45 2 := aggT_of Tryz.underlying45 rfl (by kernel_rfl)
instance : DA Tryz.prog 49 := ⟨_, Tryz.underlying49, rfl⟩
instance : DA Tryz.prog 50 := ⟨_, Tryz.underlying50, rfl⟩
instance : DA Tryz.prog 60 := ⟨_, Tryz.underlying60, rfl⟩
instance : DA Tryz.prog 64 := ⟨_, Tryz.underlying64, rfl⟩
instance : AggT Tryz.prog 70 3 := aggT_of Tryz.underlying70 rfl (by kernel_rfl)
instance : DA Tryz.prog 73 := ⟨_, Tryz.underlying73, rfl⟩
instance : DA Tryz.prog 74 := ⟨_, Tryz.underlying74, rfl⟩
instance : DA Tryz.prog 78 := ⟨_, Tryz.underlying78, rfl⟩
instance : DA Tryz.prog 9 := ⟨_, Tryz.underlying9, rfl⟩
instance : DA Tryz.prog 94 := ⟨_, Tryz.underlying94, rfl⟩
instance : DA Tryz.prog 95 := ⟨_, Tryz.underlying95, rfl⟩
instance : DA Tryz.prog 96 := ⟨_, Tryz.underlying96, rfl⟩
instance : CM Tryz.prog 101 1 := Bb (by kernel_rfl)
instance : CM Tryz.prog 102 1 := Bb (by kernel_rfl)
instance : CM Tryz.prog 121 8 := Bb (by kernel_rfl)
instance : CM Tryz.prog 127 1 := Bb (by kernel_rfl)
instance : CM Tryz.prog 136 1 := Bb (by kernel_rfl)
instance : CM Tryz.prog 149 2 := Bb (by kernel_rfl)
instance : CM Tryz.prog 150 1 := Bb (by kernel_rfl)
instance : CM Tryz.prog 151 1 := Bb (by kernel_rfl)
instance : CM Tryz.prog 165 1 := Bb (by kernel_rfl)
instance : CM Tryz.prog 23 1 := Bb (by kernel_rfl)
instance : CM Tryz.prog 25 5 := Bb (by kernel_rfl)
instance : CM Tryz.prog 26 1 := Bb (by kernel_rfl)
instance : CM Tryz.prog 3 1 := Bb (by kernel_rfl)
instance : CM Tryz.prog 4 1 := Bb (by kernel_rfl)
instance : CM Tryz.prog 49 1 := Bb (by kernel_rfl)
instance : CM Tryz.prog 50 1 := Bb (by kernel_rfl)
instance : CM Tryz.prog 60 1 := Bb (by kernel_rfl)
instance : CM Tryz.prog 74 1 := Bb (by kernel_rfl)
instance : CM Tryz.prog 78 1 := Bb (by kernel_rfl)
instance : CM Tryz.prog 95 1 := Bb (by kernel_rfl)
instance : CM Tryz.prog 96 1 := Bb (by kernel_rfl)
instance : SlT Tryz.prog 102 26 1 24 (.slice none 0 0) := slT_of Tryz.underlying102 (by kernel_rfl)
instance : ArrT Tryz.prog 114 8 113 2 := arrT_of Tryz.underlying114 (by kernel_rfl)
instance : SlT Tryz.prog 115 113 2 48 (.agg #[(.slice none 0 0), (.slice none 0 0)]) := slT_of Tryz.underlying115 (by kernel_rfl)
instance : SlT Tryz.prog 138 74 1 24 (.slice none 0 0) := slT_of Tryz.underlying138 (by kernel_rfl)
instance : SlT Tryz.prog 144 9 1 16 (An []) := slT_of Tryz.underlying144 (by kernel_rfl)
instance : SlT Tryz.prog 150 149 2 16 (.agg #[(.pointer none), (.bool false)]) := slT_of Tryz.underlying150 (by kernel_rfl)
instance : ArrT Tryz.prog 152 20 121 8 := arrT_of Tryz.underlying152 (by kernel_rfl)
instance : ArrT Tryz.prog 154 10 9 1 := arrT_of Tryz.underlying154 (by kernel_rfl)
instance : SlT Tryz.prog 22 70 3 32 (.agg #[(An []), (.bool false), (.int .i64 0)]) := slT_of Tryz.underlying22 (by kernel_rfl)
instance : SlT Tryz.prog 23 25 5 64 (.agg #[(.int .i64 0), (An []), (.int .i64 0), (.int .i64 0), (.slice none 0 0)]) := slT_of Tryz.underlying23 (by kernel_rfl)
instance : SlT Tryz.prog 26 3 1 8 (.int .i64 0) := slT_of Tryz.underlying26 (by kernel_rfl)
instance : SlT Tryz.prog 74 4 1 1 (.bool false) := slT_of Tryz.underlying74 (by kernel_rfl)
instance : StrT Tryz.prog 9 := ⟨Tryz.underlying9⟩
instance : StT Tryz.prog 104 [(0, 1), (1, 1), (2, 1), (3, 1), (4, 1)] [(.slice none 0 0), (.slice none 0 0), (.int .i64 0), (.int .i64 0), (.int .i64 0)] := stT_of (z := (.agg #[(.slice none 0 0), (.slice none 0 0), (.int .i64 0), (.int .i64 0), (.int .i64 0)])) Tryz.underlying104 (by kernel_rfl) rfl (by kernel_rfl)
instance : StT Tryz.prog 107 [(0, 1), (1, 1)] [(.int .i64 0), (.bool false)] := stT_of (z := (.agg #[(.int .i64 0), (.bool false)])) Tryz.underlying107 (by kernel_rfl) rfl (by kernel_rfl)
instance : StT Tryz.prog 113 [(0, 1), (1, 1)] [(.slice none 0 0), (.slice none 0 0)] := stT_of (z := (.agg #[(.slice none 0 0), (.slice none 0 0)])) Tryz.underlying113 (by kernel_rfl) rfl (by kernel_rfl)
instance : StT Tryz.prog 121 [(0, 1), (1, 1), (2, 1), (3, 1), (4, 1), (5, 1), (6, 1), (7, 1)] [(.int .i64 0), (.int .i64 0), (.int .i64 0), (.int .i64 0), (.bool false), (.bool false), (.bool false), (.bool false)] := stT_of (z := (.agg #[(.int .i64 0), (.int .i64 0), (.int .i64 0), (.int .i64 0), (.bool false), (.bool false), (.bool false), (.bool false)])) Tryz.underlying121 (by kernel_rfl) rfl (by kernel_rfl)
instance : StT Tryz.prog 149 [(0, 1), (1, 1)] [(.pointer none), (.bool false)] := stT_of (z := (.agg #[(.pointer none), (.bool false)])) Tryz.underlying149 (by kernel_rfl) rfl (by kernel_rfl)
instance : StT Tryz.prog 25 [(0, 1), (1, 1), (2, 1), (3, 1), (4, 1)] [(.int .i64 0), (An []), (.int .i64 0), (.int .i64 0), (.slice none 0 0)] := stT_of (z := (.agg #[(.int .i64 0), (An []), (.int .i64 0), (.int .i64 0), (.slice none 0 0)])) Tryz.underlying25 (by kernel_rfl) rfl (by kernel_rfl)
instance : StT Tryz.prog 45 [(0, 1), (1, 1)] [(.slice none 0 0), (.slice none 0 0)] := stT_of (z := (.agg #[(.slice none 0 0), (.slice none 0 0)])) Tryz.underlying45 (by kernel_rfl) rfl (by kernel_rfl)
instance : StT Tryz.prog 70 [(0, 1), (1, 1), (2, 1)] [(An []), (.bool false), (.int .i64 0)] := stT_of (z := (.agg #[(An []), (.bool false), (.int .i64 0)])) Tryz.underlying70 (by kernel_rfl) rfl (by kernel_rfl)
instance : StT Tryz.prog 87 [(0, 1), (1, 1), (2, 1), (3, 1)] [(.slice none 0 0), (.slice none 0 0), (.slice none 0 0), (.int .i64 0)] := stT_of (z := (.agg #[(.slice none 0 0), (.slice none 0 0), (.slice none 0 0), (.int .i64 0)])) Tryz.underlying87 (by kernel_rfl) rfl (by kernel_rfl)
instance : StT Tryz.prog 98 [(0, 1), (1, 1), (2, 1), (3, 1)] [(.slice none 0 0), (.slice none 0 0), (.map none), (.map none)] := stT_of (z := (.agg #[(.slice none 0 0), (.slice none 0 0), (.map none), (.map none)])) Tryz.underlying98 (by kernel_rfl) rfl (by kernel_rfl)
instance : Cb Tryz.prog 101 [.nilFunc] := Bi (z := .nilFunc) (by kernel_rfl) rfl
instance : Cb Tryz.prog 114 [(.slice none 0 0), (.slice none 0 0), (.slice none 0 0), (.slice none 0 0), (.slice none 0 0), (.slice none 0 0), (.slice none 0 0), (.slice none 0 0), (.slice none 0 0), (.slice none 0 0), (.slice none 0 0), (.slice none 0 0), (.slice none 0 0), (.slice none 0 0), (.slice none 0 0), (.slice none 0 0)] := Bi (z := (.agg #[(.slice none 0 0), (.slice none 0 0), (.slice none 0 0), (.slice none 0 0), (.slice none 0 0), (.slice none 0 0), (.slice none 0 0), (.slice none 0 0), (.slice none 0 0), (.slice none 0 0), (.slice none 0 0), (.slice none 0 0), (.slice none 0 0), (.slice none 0 0), (.slice none 0 0), (.slice none 0 0)])) (by kernel_rfl) rfl
instance : Cb Tryz.prog 121 [(.int .i64 0), (.int .i64 0), (.int .i64 0), (.int .i64 0), (.bool false), (.bool false), (.bool false), (.bool false)] := Bi (z := (.agg #[(.int .i64 0), (.int .i64 0), (.int .i64 0), (.int .i64 0), (.bool false), (.bool false), (.bool false), (.bool false)])) (by kernel_rfl) rfl
instance : Cb Tryz.prog 127 [.nilFunc] := Bi (z := .nilFunc) (by kernel_rfl) rfl
instance : Cb Tryz.prog 136 [(.map none)] := Bi (z := (.map none)) (by kernel_rfl) rfl
instance : Cb Tryz.prog 149 [(.pointer none), (.bool false)] := Bi (z := (.agg #[(.pointer none), (.bool false)])) (by kernel_rfl) rfl
instance : Cb Tryz.prog 150 [(.slice none 0 0)] := Bi (z := (.slice none 0 0)) (by kernel_rfl) rfl
instance : Cb Tryz.prog 151 [.nilFunc] := Bi (z := .nilFunc) (by kernel_rfl) rfl
instance : Cb Tryz.prog 165 [.nilFunc] := Bi (z := .nilFunc) (by kernel_rfl) rfl
instance : Cb Tryz.prog 23 [(.slice none 0 0)] := Bi (z := (.slice none 0 0)) (by kernel_rfl) rfl
instance : Cb Tryz.prog 25 [(.int .i64 0), (An []), (.int .i64 0), (.int .i64 0), (.slice none 0 0)] := Bi (z := (.agg #[(.int .i64 0), (An []), (.int .i64 0), (.int .i64 0), (.slice none 0 0)])) (by kernel_rfl) rfl
instance : Cb Tryz.prog 26 [(.slice none 0 0)] := Bi (z := (.slice none 0 0)) (by kernel_rfl) rfl
instance : Cb Tryz.prog 3 [(.int .i64 0)] := Bi (z := (.int .i64 0)) (by kernel_rfl) rfl
instance : Cb Tryz.prog 4 [(.bool false)] := Bi (z := (.bool false)) (by kernel_rfl) rfl
instance : Cb Tryz.prog 49 [.nilFunc] := Bi (z := .nilFunc) (by kernel_rfl) rfl
instance : Cb Tryz.prog 50 [(.pointer none)] := Bi (z := (.pointer none)) (by kernel_rfl) rfl
instance : Cb Tryz.prog 60 [(.pointer none)] := Bi (z := (.pointer none)) (by kernel_rfl) rfl
instance : Cb Tryz.prog 78 [(.int .i64 0)] := Bi (z := (.int .i64 0)) (by kernel_rfl) rfl
instance : AS Tryz.prog 4 := AN Tryz.func4 (by kernel_rfl) (by kernel_rfl)
instance : AS Tryz.prog 5 := AN Tryz.func5 (by kernel_rfl) (by kernel_rfl)
instance : AS Tryz.prog 6 := AN Tryz.func6 (by kernel_rfl) (by kernel_rfl)
instance : AS Tryz.prog 7 := AN Tryz.func7 (by kernel_rfl) (by kernel_rfl)
instance : AS Tryz.prog 8 := AN Tryz.func8 (by kernel_rfl) (by kernel_rfl)
instance : AS Tryz.prog 9 := AN Tryz.func9 (by kernel_rfl) (by kernel_rfl)
instance : AS Tryz.prog 10 := AN Tryz.func10 (by kernel_rfl) (by kernel_rfl)
instance : AS Tryz.prog 11 := AN Tryz.func11 (by kernel_rfl) (by kernel_rfl)
instance : AS Tryz.prog 12 := AN Tryz.func12 (by kernel_rfl) (by kernel_rfl)
instance : AS Tryz.prog 13 := AN Tryz.func13 (by kernel_rfl) (by kernel_rfl)
instance : AS Tryz.prog 14 := AN Tryz.func14 (by kernel_rfl) (by kernel_rfl)
instance : AS Tryz.prog 15 := AN Tryz.func15 (by kernel_rfl) (by kernel_rfl)
instance : AS Tryz.prog 16 := AN Tryz.func16 (by kernel_rfl) (by kernel_rfl)
instance : AS Tryz.prog 17 := AN Tryz.func17 (by kernel_rfl) (by kernel_rfl)
instance : AS Tryz.prog 18 := AN Tryz.func18 (by kernel_rfl) (by kernel_rfl)
instance : AS Tryz.prog 19 := AN Tryz.func19 (by kernel_rfl) (by kernel_rfl)
instance : AS Tryz.prog 20 := AN Tryz.func20 (by kernel_rfl) (by kernel_rfl)
instance : AS Tryz.prog 21 := AN Tryz.func21 (by kernel_rfl) (by kernel_rfl)
instance : AS Tryz.prog 22 := AN Tryz.func22 (by kernel_rfl) (by kernel_rfl)
instance : AS Tryz.prog 23 := AN Tryz.func23 (by kernel_rfl) (by kernel_rfl)
instance : AS Tryz.prog 24 := AN Tryz.func24 (by kernel_rfl) (by kernel_rfl)
instance : AS Tryz.prog 25 := AN Tryz.func25 (by kernel_rfl) (by kernel_rfl)
instance : AS Tryz.prog 26 := AN Tryz.func26 (by kernel_rfl) (by kernel_rfl)
instance : AS Tryz.prog 27 := AN Tryz.func27 (by kernel_rfl) (by kernel_rfl)
instance : AS Tryz.prog 28 := AN Tryz.func28 (by kernel_rfl) (by kernel_rfl)
instance : AS Tryz.prog 29 := AN Tryz.func29 (by kernel_rfl) (by kernel_rfl)
instance : AS Tryz.prog 30 := AN Tryz.func30 (by kernel_rfl) (by kernel_rfl)
instance : AS Tryz.prog 31 := AN Tryz.func31 (by kernel_rfl) (by kernel_rfl)
instance : AS Tryz.prog 32 := AN Tryz.func32 (by kernel_rfl) (by kernel_rfl)
instance : AS Tryz.prog 33 := AN Tryz.func33 (by kernel_rfl) (by kernel_rfl)
instance : AS Tryz.prog 34 := AN Tryz.func34 (by kernel_rfl) (by kernel_rfl)
instance : AS Tryz.prog 35 := AN Tryz.func35 (by kernel_rfl) (by kernel_rfl)
instance : AS Tryz.prog 36 := AN Tryz.func36 (by kernel_rfl) (by kernel_rfl)
instance : AS Tryz.prog 37 := AN Tryz.func37 (by kernel_rfl) (by kernel_rfl)
instance : AS Tryz.prog 38 := AN Tryz.func38 (by kernel_rfl) (by kernel_rfl)
instance : AS Tryz.prog 39 := AN Tryz.func39 (by kernel_rfl) (by kernel_rfl)
instance : AS Tryz.prog 40 := AN Tryz.func40 (by kernel_rfl) (by kernel_rfl)
instance : AS Tryz.prog 41 := AN Tryz.func41 (by kernel_rfl) (by kernel_rfl)
instance : AS Tryz.prog 42 := AN Tryz.func42 (by kernel_rfl) (by kernel_rfl)
instance : AS Tryz.prog 43 := AN Tryz.func43 (by kernel_rfl) (by kernel_rfl)
instance : AS Tryz.prog 44 := AN Tryz.func44 (by kernel_rfl) (by kernel_rfl)
instance : AS Tryz.prog 45 := AN Tryz.func45 (by kernel_rfl) (by kernel_rfl)
instance : AS Tryz.prog 46 := AN Tryz.func46 (by kernel_rfl) (by kernel_rfl)
instance : AS Tryz.prog 47 := AN Tryz.func47 (by kernel_rfl) (by kernel_rfl)
instance : AS Tryz.prog 48 := AN Tryz.func48 (by kernel_rfl) (by kernel_rfl)
instance : AS Tryz.prog 49 := AN Tryz.func49 (by kernel_rfl) (by kernel_rfl)
instance : AS Tryz.prog 50 := AN Tryz.func50 (by kernel_rfl) (by kernel_rfl)
instance : AS Tryz.prog 51 := AN Tryz.func51 (by kernel_rfl) (by kernel_rfl)
instance : AS Tryz.prog 52 := AN Tryz.func52 (by kernel_rfl) (by kernel_rfl)
instance : AS Tryz.prog 53 := AN Tryz.func53 (by kernel_rfl) (by kernel_rfl)
instance : AS Tryz.prog 54 := AN Tryz.func54 (by kernel_rfl) (by kernel_rfl)
instance : AS Tryz.prog 55 := AN Tryz.func55 (by kernel_rfl) (by kernel_rfl)
instance : AS Tryz.prog 56 := AN Tryz.func56 (by kernel_rfl) (by kernel_rfl)
instance : AS Tryz.prog 57 := AN Tryz.func57 (by kernel_rfl) (by kernel_rfl)
instance : AS Tryz.prog 58 := AN Tryz.func58 (by kernel_rfl) (by kernel_rfl)
instance : AS Tryz.prog 59 := AN Tryz.func59 (by kernel_rfl) (by kernel_rfl)
instance : AS Tryz.prog 60 := AN Tryz.func60 (by kernel_rfl) (by kernel_rfl)
instance : AS Tryz.prog 61 := AN Tryz.func61 (by kernel_rfl) (by kernel_rfl)
instance : AS Tryz.prog 62 := AN Tryz.func62 (by kernel_rfl) (by kernel_rfl)
instance : AS Tryz.prog 63 := AN Tryz.func63 (by kernel_rfl) (by kernel_rfl)
instance : AS Tryz.prog 64 := AN Tryz.func64 (by kernel_rfl) (by kernel_rfl)
instance : AS Tryz.prog 65 := AN Tryz.func65 (by kernel_rfl) (by kernel_rfl)
instance : AS Tryz.prog 66 := AN Tryz.func66 (by kernel_rfl) (by kernel_rfl)
instance : AS Tryz.prog 67 := AN Tryz.func67 (by kernel_rfl) (by kernel_rfl)
instance : AS Tryz.prog 68 := AN Tryz.func68 (by kernel_rfl) (by kernel_rfl)
instance : AS Tryz.prog 69 := AN Tryz.func69 (by kernel_rfl) (by kernel_rfl)
instance : AS Tryz.prog 70 := AN Tryz.func70 (by kernel_rfl) (by kernel_rfl)
instance : AS Tryz.prog 71 := AN Tryz.func71 (by kernel_rfl) (by kernel_rfl)
instance : AS Tryz.prog 72 := AN Tryz.func72 (by kernel_rfl) (by kernel_rfl)
instance : AS Tryz.prog 73 := AN Tryz.func73 (by kernel_rfl) (by kernel_rfl)
instance : AS Tryz.prog 74 := AN Tryz.func74 (by kernel_rfl) (by kernel_rfl)
instance : AS Tryz.prog 75 := AN Tryz.func75 (by kernel_rfl) (by kernel_rfl)
instance : AS Tryz.prog 76 := AN Tryz.func76 (by kernel_rfl) (by kernel_rfl)
instance : AS Tryz.prog 77 := AN Tryz.func77 (by kernel_rfl) (by kernel_rfl)
instance : AS Tryz.prog 78 := AN Tryz.func78 (by kernel_rfl) (by kernel_rfl)
instance : AS Tryz.prog 79 := AN Tryz.func79 (by kernel_rfl) (by kernel_rfl)
instance : AS Tryz.prog 80 := AN Tryz.func80 (by kernel_rfl) (by kernel_rfl)
instance : AS Tryz.prog 81 := AN Tryz.func81 (by kernel_rfl) (by kernel_rfl)
instance : AS Tryz.prog 82 := AN Tryz.func82 (by kernel_rfl) (by kernel_rfl)
instance : AS Tryz.prog 83 := AN Tryz.func83 (by kernel_rfl) (by kernel_rfl)
instance : AS Tryz.prog 84 := AN Tryz.func84 (by kernel_rfl) (by kernel_rfl)
instance : AS Tryz.prog 85 := AN Tryz.func85 (by kernel_rfl) (by kernel_rfl)
instance : AS Tryz.prog 86 := AN Tryz.func86 (by kernel_rfl) (by kernel_rfl)
instance : AS Tryz.prog 87 := AN Tryz.func87 (by kernel_rfl) (by kernel_rfl)
instance : AS Tryz.prog 88 := AN Tryz.func88 (by kernel_rfl) (by kernel_rfl)
instance : AS Tryz.prog 89 := AN Tryz.func89 (by kernel_rfl) (by kernel_rfl)
instance : AS Tryz.prog 90 := AN Tryz.func90 (by kernel_rfl) (by kernel_rfl)
instance : AS Tryz.prog 91 := AN Tryz.func91 (by kernel_rfl) (by kernel_rfl)
instance : AS Tryz.prog 92 := AN Tryz.func92 (by kernel_rfl) (by kernel_rfl)
instance : AS Tryz.prog 93 := AN Tryz.func93 (by kernel_rfl) (by kernel_rfl)
instance : AS Tryz.prog 94 := AN Tryz.func94 (by kernel_rfl) (by kernel_rfl)
instance : AS Tryz.prog 95 := AN Tryz.func95 (by kernel_rfl) (by kernel_rfl)
instance : AS Tryz.prog 96 := AN Tryz.func96 (by kernel_rfl) (by kernel_rfl)
instance : AS Tryz.prog 97 := AN Tryz.func97 (by kernel_rfl) (by kernel_rfl)
instance : AS Tryz.prog 98 := AN Tryz.func98 (by kernel_rfl) (by kernel_rfl)
instance : AS Tryz.prog 99 := AN Tryz.func99 (by kernel_rfl) (by kernel_rfl)
instance : AS Tryz.prog 100 := AN Tryz.func100 (by kernel_rfl) (by kernel_rfl)
instance : AS Tryz.prog 101 := AN Tryz.func101 (by kernel_rfl) (by kernel_rfl)
instance : AS Tryz.prog 102 := AN Tryz.func102 (by kernel_rfl) (by kernel_rfl)
instance : AS Tryz.prog 103 := AN Tryz.func103 (by kernel_rfl) (by kernel_rfl)
instance : AS Tryz.prog 104 := AN Tryz.func104 (by kernel_rfl) (by kernel_rfl)
instance : AS Tryz.prog 105 := AN Tryz.func105 (by kernel_rfl) (by kernel_rfl)
instance : AS Tryz.prog 106 := AN Tryz.func106 (by kernel_rfl) (by kernel_rfl)
instance : AS Tryz.prog 107 := AN Tryz.func107 (by kernel_rfl) (by kernel_rfl)
instance : AS Tryz.prog 108 := AN Tryz.func108 (by kernel_rfl) (by kernel_rfl)
instance : AS Tryz.prog 109 := AN Tryz.func109 (by kernel_rfl) (by kernel_rfl)
instance : AS Tryz.prog 110 := AN Tryz.func110 (by kernel_rfl) (by kernel_rfl)
instance : AS Tryz.prog 111 := AN Tryz.func111 (by kernel_rfl) (by kernel_rfl)
instance : AS Tryz.prog 112 := AN Tryz.func112 (by kernel_rfl) (by kernel_rfl)
instance : AS Tryz.prog 113 := AN Tryz.func113 (by kernel_rfl) (by kernel_rfl)
instance : AS Tryz.prog 114 := AN Tryz.func114 (by kernel_rfl) (by kernel_rfl)
instance : AS Tryz.prog 115 := AN Tryz.func115 (by kernel_rfl) (by kernel_rfl)
instance : AS Tryz.prog 116 := AN Tryz.func116 (by kernel_rfl) (by kernel_rfl)
instance : AS Tryz.prog 117 := AN Tryz.func117 (by kernel_rfl) (by kernel_rfl)
instance : AS Tryz.prog 118 := AN Tryz.func118 (by kernel_rfl) (by kernel_rfl)
instance : AS Tryz.prog 119 := AN Tryz.func119 (by kernel_rfl) (by kernel_rfl)
instance : AS Tryz.prog 121 := AN Tryz.func121 (by kernel_rfl) (by kernel_rfl)
instance : AS Tryz.prog 122 := AN Tryz.func122 (by kernel_rfl) (by kernel_rfl)
instance : AS Tryz.prog 123 := AN Tryz.func123 (by kernel_rfl) (by kernel_rfl)
instance : AS Tryz.prog 124 := AN Tryz.func124 (by kernel_rfl) (by kernel_rfl)
instance : AS Tryz.prog 125 := AN Tryz.func125 (by kernel_rfl) (by kernel_rfl)
instance : AS Tryz.prog 126 := AN Tryz.func126 (by kernel_rfl) (by kernel_rfl)
instance : AS Tryz.prog 127 := AN Tryz.func127 (by kernel_rfl) (by kernel_rfl)
instance : AS Tryz.prog 129 := AN Tryz.func129 (by kernel_rfl) (by kernel_rfl)
instance : AS Tryz.prog 131 := AN Tryz.func131 (by kernel_rfl) (by kernel_rfl)
instance : AS Tryz.prog 132 := AN Tryz.func132 (by kernel_rfl) (by kernel_rfl)
instance : AS Tryz.prog 133 := AN Tryz.func133 (by kernel_rfl) (by kernel_rfl)
instance : AS Tryz.prog 134 := AN Tryz.func134 (by kernel_rfl) (by kernel_rfl)
instance : AS Tryz.prog 135 := AN Tryz.func135 (by kernel_rfl) (by kernel_rfl)
instance : AS Tryz.prog 136 := AN Tryz.func136 (by kernel_rfl) (by kernel_rfl)
instance : AS Tryz.prog 137 := AN Tryz.func137 (by kernel_rfl) (by kernel_rfl)
instance : AS Tryz.prog 138 := AN Tryz.func138 (by kernel_rfl) (by kernel_rfl)
instance : AS Tryz.prog 139 := AN Tryz.func139 (by kernel_rfl) (by kernel_rfl)
instance : AS Tryz.prog 140 := AN Tryz.func140 (by kernel_rfl) (by kernel_rfl)
instance : AS Tryz.prog 141 := AN Tryz.func141 (by kernel_rfl) (by kernel_rfl)
instance : AS Tryz.prog 142 := AN Tryz.func142 (by kernel_rfl) (by kernel_rfl)
instance : AS Tryz.prog 143 := AN Tryz.func143 (by kernel_rfl) (by kernel_rfl)
instance : AS Tryz.prog 144 := AN Tryz.func144 (by kernel_rfl) (by kernel_rfl)
instance : AS Tryz.prog 145 := AN Tryz.func145 (by kernel_rfl) (by kernel_rfl)
instance : AS Tryz.prog 146 := AN Tryz.func146 (by kernel_rfl) (by kernel_rfl)
instance : AS Tryz.prog 147 := AN Tryz.func147 (by kernel_rfl) (by kernel_rfl)
instance : AS Tryz.prog 148 := AN Tryz.func148 (by kernel_rfl) (by kernel_rfl)
instance : AS Tryz.prog 149 := AN Tryz.func149 (by kernel_rfl) (by kernel_rfl)
instance : AS Tryz.prog 150 := AN Tryz.func150 (by kernel_rfl) (by kernel_rfl)
instance : AS Tryz.prog 151 := AN Tryz.func151 (by kernel_rfl) (by kernel_rfl)
instance : AS Tryz.prog 152 := AN Tryz.func152 (by kernel_rfl) (by kernel_rfl)
instance : AS Tryz.prog 153 := AN Tryz.func153 (by kernel_rfl) (by kernel_rfl)
instance : AS Tryz.prog 154 := AN Tryz.func154 (by kernel_rfl) (by kernel_rfl)
instance : AS Tryz.prog 155 := AN Tryz.func155 (by kernel_rfl) (by kernel_rfl)
instance : AS Tryz.prog 156 := AN Tryz.func156 (by kernel_rfl) (by kernel_rfl)
instance : AS Tryz.prog 157 := AN Tryz.func157 (by kernel_rfl) (by kernel_rfl)
instance : AS Tryz.prog 160 := AN Tryz.func160 (by kernel_rfl) (by kernel_rfl)
instance : AS Tryz.prog 161 := AN Tryz.func161 (by kernel_rfl) (by kernel_rfl)
instance : AS Tryz.prog 162 := AN Tryz.func162 (by kernel_rfl) (by kernel_rfl)
instance : AS Tryz.prog 167 := AN Tryz.func167 (by kernel_rfl) (by kernel_rfl)
instance : AS Tryz.prog 168 := AN Tryz.func168 (by kernel_rfl) (by kernel_rfl)
instance : AS Tryz.prog 169 := AN Tryz.func169 (by kernel_rfl) (by kernel_rfl)
instance : AS Tryz.prog 170 := AN Tryz.func170 (by kernel_rfl) (by kernel_rfl)
instance : AS Tryz.prog 186 := AN Tryz.func186 (by kernel_rfl) (by kernel_rfl)
instance : AS Tryz.prog 187 := AN Tryz.func187 (by kernel_rfl) (by kernel_rfl)
instance : AS Tryz.prog 192 := AN Tryz.func192 (by kernel_rfl) (by kernel_rfl)
instance : AS Tryz.prog 193 := AN Tryz.func193 (by kernel_rfl) (by kernel_rfl)
instance : AS Tryz.prog 194 := AN Tryz.func194 (by kernel_rfl) (by kernel_rfl)
instance : AS Tryz.prog 195 := AN Tryz.func195 (by kernel_rfl) (by kernel_rfl)
instance : AS Tryz.prog 196 := AN Tryz.func196 (by kernel_rfl) (by kernel_rfl)
instance : AS Tryz.prog 199 := AN Tryz.func199 (by kernel_rfl) (by kernel_rfl)
instance : AS Tryz.prog 211 := AN Tryz.func211 (by kernel_rfl) (by kernel_rfl)
instance : AS Tryz.prog 212 := AN Tryz.func212 (by kernel_rfl) (by kernel_rfl)
theorem Ax : Tryz.prog.follows .mixedOrders = true := by kernel_rfl
end Go.Proofs.YtkhhjdjmhbdjfaaGreatDoor
namespace Go.Proofs.YtkhhjdjmhbdjfaaGreatDoor
instance weakMK : MK False := ⟨trivial⟩
end Go.Proofs.YtkhhjdjmhbdjfaaGreatDoor
namespace Go.Proofs.YtkhhjdjmhbdjfaaGreatDoor
open Go.ChangeShapes Go.WideShapes Go.ChangeAt Go.RowKit
open Go.ChangeMaps (open_string)
section
variable {H : Type} {enc : TypeId × Value → H} {P : Program} {W W' : World}
theorem sameAt_ext (he : Ext W W') {p : MemPlace} (hp : p.block < W.heap.size) : W.sameAt W' p := by
 cases p with
 | cell b off => exact World.cell?_of_block (w := W) (a := ⟨b, off, none⟩) (he.block b hp (by simp))
 | map b => exact he.block b hp (by simp)
theorem trodAll_ext (K : Kids P (· < P.types.size)) (hz : ∀ t e, t < P.types.size → P.underlying t = some (.slice e) → 0 < P.cellsOf e) (he : Ext W W') {sp : Nat → Bool} :
  ∀ {ts : List TypeId} {vs : List Value} {ds : List (DataW H)} {ps : List MemPlace}, (∀ t ∈ ts, t < P.types.size) → DataW.TrodAll enc P W 0 (fun _ => true) true ts vs ds ps →
   (∀ p ∈ ps, p.block < W.heap.size) → (∀ p ∈ ps, sp p.block = true) → DataW.TrodAll enc P W' 0 sp true ts vs ds ps
 | [], [], [], _, _, h, _, _ => h
 | _ :: _, _ :: _, _ :: _, _, hT, ⟨p, q, ⟨n, h1⟩, h2, e⟩, hl, hs => by
  subst e
  refine ⟨p, q, ⟨n, DataW.trod_stays K (fun ht hu => hz _ _ ht hu) (fun h => by cases h) (hT _ (by simp)) h1 (fun x hx => sameAt_ext he (hl x (List.mem_append_left _ hx))) fun x hx => hs x (List.mem_append_left _ hx)⟩, ?_, rfl⟩
  exact trodAll_ext K hz he (fun t ht => hT t (List.mem_cons_of_mem _ ht)) h2 (fun x hx => hl x (List.mem_append_right _ hx)) fun x hx => hs x (List.mem_append_right _ hx)
theorem keptBut_ext (he : Ext W W') (may : MemPlace → Prop) : W.keptBut W' may := by
 refine ⟨he.os, he.output, fun i hi => ?_⟩
 rw [he.block i hi (by simp)]
 exact (World.keptBut_refl W may).2.2 i hi
theorem post_of_ext (K : Kids P (· < P.types.size)) (hz : ∀ t e, t < P.types.size → P.underlying t = some (.slice e) → 0 < P.cellsOf e) {f : Func} {s : ChangeSpec} {apart fresh handsOn : Bool} {args : Array Value} {v : Value} {ds gs : List (DataW H)} {before : List MemPlace} {tb : TypeId}
  (hts : ∀ t ∈ f.params.toList, t < P.types.size) (hs : s.vars = []) (hW : DataW.Whole enc P f.params.toList s.vars apart W args.toList ds gs before)
  (hfn : s.fn H (ds ++ gs) = { results := [.lit (.bool true)], args := ds }) (hrt : f.resultTypes = #[tb]) (htb : P.underlying tb = some .bool) (hv : v = .bool true) (he : Ext W W') :
  s.post enc P f apart fresh handsOn false W args v W' := by
 subst hv
 have hlt : ∀ p ∈ before, p.block < W.heap.size := hW.lt
 obtain ⟨p, q, hA, hV, rfl, hf, hn⟩ := id hW
 have hq : gs = [] ∧ q = [] := by
  rw [hs] at hV
  cases gs with
  | nil => exact ⟨rfl, hV⟩
  | cons _ _ => exact hV.elim
 obtain ⟨rfl, rfl⟩ := hq
 refine ⟨ds, [], _, [], p, [], hW, ?_, ?_, ?_, keptBut_ext he _, (fun h => by cases h)⟩
 ·rw [hfn, hrt]
  exact trodAll_cons_mk (shut_bool htb true) trodAll_mk0
 ·rw [hfn]
  exact trodAll_ext K hz he hts hA (fun x hx => hlt x (List.mem_append_left _ hx)) fun x hx => by simpa using hlt x (List.mem_append_left _ hx)
 ·rw [hfn, hs]; exact rfl
end
theorem kids : Kids Tryz.prog (· < Tryz.prog.types.size) := kids_rows (by kernel_rfl) (by kernel_rfl)
theorem full : ∀ t e, t < Tryz.prog.types.size → Tryz.prog.underlying t = some (.slice e) → 0 < Tryz.prog.cellsOf e := slices_full_of Tryz.prog (by kernel_rfl)
theorem own : ownKnob Tryz.prog.godebug = none := by kernel_rfl
section
variable {H : Type} {enc : TypeId × Value → H} {P : Program} {W : World} {sp : Nat → Bool} {hd : Bool}
theorem spot_none {a : Addr} {v : Value} (h : W.cell? a = some v) : a.spot = none := by
 cases ha : a.spot with
 | none => rfl
 | some _ =>
  unfold World.cell? at h
  split at h
  ·simp [ha] at h
  ·cases h
theorem val_one {r : Reach} {t e : TypeId} {v u : Value} {b : Nat} (ht : P.underlying t = some (.slice e)) (hval : Value.okWide P W r b t v) (h : v.cells.toList = [u]) : v = u := by
 obtain ⟨a, l, c, rfl⟩ := okWide_slice ht hval
 simpa [Value.cells] using h
end
end Go.Proofs.YtkhhjdjmhbdjfaaGreatDoor
namespace Go.Proofs.YtkhhjdjmhbdjfaaGreatDoor
open Go.RowKit
variable {mk : Prop} [MK mk]
attribute [local semireducible] WC AX Bx BT Bu finQ finD Bw
section
variable {P : Program} {fn : Func} {R : Value → World → Prop} {Y : List PanicEntry → World → Prop} {f : Fr} {w : World} {ds : DS}
theorem run_loadVar_one {T b o : Nat} {v : Value} (hT : DA P T) (hc : w.cell? ⟨b, o, none⟩ = some v) : (loadVar T ⟨b, o, none⟩).run P w = .ok v w := by
 obtain ⟨dd, h1, h2⟩ := hT.out
 have e : (isAgg T).run P w = .ok false w := by
  simp only [isAgg, Sem.run_bind, run_underlying h1, Result.andThen_ok]
  cases dd <;> simp_all [aggD]
 simp only [loadVar, Sem.run_bind, e, Result.andThen_ok]
 simp [hc]
theorem CL {T b o t : Nat} {v : Value} {l : List ResultVar} {k : List Value → Prop} [hT : DA P T] (ha : f t = .pointer (some ⟨b, o, none⟩)) (hc : w.cell? ⟨b, o, none⟩ = some v) (h : resVals P l f w fun r => k (v :: r)) : resVals P (.cell t T :: l) f w k :=
 ⟨_, v, ha, run_loadVar_one hT hc, h⟩
theorem BU (h : resVals P fn.results.toList f w fun l => R (tupleOf l) w) : finD P fn R Y .ret f [] w := h
end
class Nx (g : Prop) (c s : outParam Prop) : Prop where
 imp : c → s → g
theorem nx {g c s : Prop} [h : Nx g c s] (y : c) (x : s) : g := h.imp y x
section
variable {P : Program} {n : Cf} {Q : CX} {f : Fr} {ds : DS} {w : World} {a b : Code} {k : Fr → DS → World → Prop} {i j l : Nat} {o : Operand} {c : List PanicEntry} {all : Array Oper} {Z : Fr → DS → List PanicEntry → World → Prop}
instance : Nx (WC P n (.seq a b) Q f ds w) (0 = 0) (WC P n a (Bx (WC P n b Q) Q) f ds w) := ⟨fun _ => C_seq⟩
instance : Nx (WC P n (.block i a) Q f ds w) (0 = 0) (WC P n a (BT i Q) f ds w) := ⟨fun _ => C_block⟩
instance : Nx (WC P n (.scope a) Q f ds w) (0 = 0) (WC P n a (Bu Q) f ds w) := ⟨fun _ => C_scope⟩
instance : Nx (WC P n .skip Q f ds w) (0 = 0) (Q .normal f ds w) := ⟨fun _ => C_skip⟩
instance : Nx (WC P n (.label l) Q f ds w) (0 = 0) (Q .normal f ds w) := ⟨fun _ => C_label⟩
instance : Nx (WC P n .ret Q f ds w) (0 = 0) (Q .ret f ds w) := ⟨fun _ => C_ret⟩
instance : Nx (WC P n (.exit i) Q f ds w) (0 = 0) (Q (.exit i) f ds w) := ⟨fun _ => C_exit⟩
instance : Nx (Bx k Q .normal f ds w) (0 = 0) (k f ds w) := ⟨fun _ => Q_then⟩
instance : Nx (Bx k Q .ret f ds w) (0 = 0) (Q .ret f ds w) := ⟨fun _ => Q_then_ret⟩
instance : Nx (Bx k Q (.exit i) f ds w) (0 = 0) (Q (.exit i) f ds w) := ⟨fun _ => Q_then_exit⟩
instance : Nx (Bx k Q (.panic c) f ds w) (0 = 0) (Q (.panic c) f ds w) := ⟨fun _ => Q_then_panic⟩
instance : Nx (BT i Q .normal f ds w) (0 = 0) (Q .normal f ds w) := ⟨fun _ => Q_block⟩
instance : Nx (BT i Q .ret f ds w) (0 = 0) (Q .ret f ds w) := ⟨fun _ => Q_block_ret⟩
instance : Nx (BT i Q (.panic c) f ds w) (0 = 0) (Q (.panic c) f ds w) := ⟨fun _ => Q_block_panic⟩
instance : Nx (BT i Q (.exit i) f ds w) (0 = 0) (Q .normal f ds w) := ⟨fun _ => Q_block_here⟩
instance : Nx (asnQ k .normal f ds w) (0 = 0) (k f ds w) := ⟨fun _ => Q_asn⟩
instance : Nx (Bu Q .normal f ds w) (0 = 0) (Q .normal f ds w) := ⟨fun _ => fun h => h⟩
instance : Nx (Bu Q .ret f ds w) (0 = 0) (Q .ret f ds w) := ⟨fun _ => fun h => h⟩
instance : Nx (Bu Q (.exit i) f ds w) (0 = 0) (Q (.exit i) f ds w) := ⟨fun _ => fun h => h⟩
instance : Nx (Bu Q (.panic c) f ds w) (0 = 0) (Q (.panic c) f ds w) := ⟨fun _ => fun h => h⟩
instance : Nx (AX P all Z k [] f ds w) (0 = 0) (k f ds w) := ⟨fun _ => AO⟩
instance (priority := low) : Nx (BT j Q (.exit i) f ds w) (Nat.beq i j = false) (Q (.exit i) f ds w) := ⟨Q_block_on⟩
instance : Nx (WC P n (.cond o a b) Q f ds w) (ev f o = .bool true) (WC P n a Q f ds w) := ⟨C_cond_t⟩
theorem nf (hc : ev f o = .bool false) (h : WC P n b Q f ds w) : WC P n (.cond o a b) Q f ds w := C_cond_f hc h
end
end Go.Proofs.YtkhhjdjmhbdjfaaGreatDoor
namespace Go.Proofs.YtkhhjdjmhbdjfaaGreatDoor
open Go.RowKit
set_option linter.unusedVariables false
variable {mk : Prop} [MK mk]
def Bg (c : UInt8) : Bool := decide (97 ≤ c.toNat) && decide (c.toNat ≤ 122)
def isDig (c : UInt8) : Bool := decide (48 ≤ c.toNat) && decide (c.toNat ≤ 57)
inductive Fml where
 | mk (op : Int) (name : List UInt8) (val bound : Int) (args : List Fml)
def Fml.op : Fml → Int | .mk o _ _ _ _ => o
def Fml.name : Fml → List UInt8 | .mk _ n _ _ _ => n
def Fml.val : Fml → Int | .mk _ _ v _ _ => v
def Fml.bound : Fml → Int | .mk _ _ _ b _ => b
def Fml.args : Fml → List Fml | .mk _ _ _ _ a => a
def Af : Fml := ⟨0, [], 0, 0, []⟩
structure Sgn where
 name : List UInt8
 input : Bool
 size : Int
def keysL : List (List UInt8) := [[105, 110, 112, 117, 116], [111, 117, 116, 112, 117, 116], [112, 97, 114, 116], [97, 115, 115, 117, 109, 101], [103, 117, 97, 114, 97, 110, 116, 101, 101], [116, 114, 117, 101], [102, 97, 108, 115, 101], [97, 100, 100], [100, 114, 111, 112], [114, 101, 112, 108, 97, 99, 101]]
def restB (c : UInt8) : Bool := Bg c || isDig c || decide (c.toNat = 95)
def nameB (s : List UInt8) : Bool :=
 decide (1 ≤ s.length) && decide (s.length ≤ 12) && Bg (s.getD 0 0) && s.all restB && !decide (s ∈ keysL)
def isF (s : List UInt8) (n : Int) : Fml := ⟨3, s, n, 0, []⟩
end Go.Proofs.YtkhhjdjmhbdjfaaGreatDoor
