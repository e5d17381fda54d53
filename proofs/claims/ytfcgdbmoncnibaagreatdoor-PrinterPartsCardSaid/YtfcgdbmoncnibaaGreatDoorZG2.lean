/- A rule for a statement whose order is drawn: one order serves all, where what only reads comes first and what acts comes in a chain. Shorter rules: what a comparison yields where it is known, reads in a drawn order. Ranges over functions: the statement, a round, the call of yield, how a function with a mark is left. Rules for strings out of bytes and for arrays of bytes. Structs of plain fields compared. Rules for maps from strings to values: made, filled, looked up. Helpers for the facts on a program's types. Rules: a checked pointer, pieces of strings, places of arrays as values, panics, what an interface holds. Conditions: none. -/
import Derived.Test.YtfcgdbmoncnibaaGreatDoorZG1
import Derived.RangeFuncIn
import Derived.Laws.IdiomStrings
import Derived.ChangeKeysEq
import Derived.Maps.RangeRun
import Derived.KernelRfl

namespace Go.Proofs.YtfcgdbmoncnibaaGreatDoor
open Go.RowKit
variable {mk : Prop} [MK mk]
attribute [local semireducible] WC AW B6 BZ B8 Cw DY By
variable {P : Program} {ops : Array Oper} {n : Nat} {rr : Option Nat} {Q : Exit → Act → World → Prop} {S : World → Prop}
def SemOk (rr : Option Nat) (ops : Array Oper) : Prop := ∀ (j : Nat) (o : Oper), ops[j]? = some o → ∀ ρ, Oper.semAt rr ρ o = execOp ρ o
def YR (P : Program) (ops : Array Oper) (S : World → Prop) (o : Oper) (v : Value) (a : Act) : Prop :=
 (Region.wanted o (yielded ops a.tmps) = true ∧ ∀ w, S w → (execOp a.eval o).run P w = .ok (.value v) w ∨ ((execOp a.eval o).run P w = .ok .skip w ∧ v = undef) ∨
  (∃ g args w1, (execOp a.eval o).run P w = .ok (.enter g args) w1 ∧ Calls P g args w1 (fun e w' => e = .returned v ∧ w' = w)) ∨
  ∃ l g tmps assign body w1, (execOp a.eval o).run P w = .ok (.round l g tmps assign body) w1 ∧ RoundIn Fence.wide 0 P l g tmps assign body w1 (fun e w' => e = .returned v ∧ w' = w)) ∨
 (Region.wanted o (yielded ops a.tmps) = false ∧ v = undef)
theorem YR.same {o : Oper} {v : Value} {a a' : Act} (hy : YR P ops S o v a) (he : execOp a'.eval o = execOp a.eval o)
  (hw : Region.wanted o (yielded ops a'.tmps) = Region.wanted o (yielded ops a.tmps)) : YR P ops S o v a' := by
 unfold YR at *
 rw [he, hw]
 exact hy
theorem rnd_depth {rr : Option Nat} : (rnd rr).depth.isSome = true → 1 ≤ 0 := fun hh => by simp [rnd, Fence.wide] at hh
theorem YR.wpOp {i : Nat} {o : Oper} {v : Value} {a : Act} {w : World} (hso : SemOk rr ops) (hi : ops[i]? = some o) (hy : YR P ops S o v a) (hS : S w) {K : Act → World → Prop} (h : K (a.put o.dst v) w) : wpOpIn (rnd rr) 0 P ops Q i K a w := by
 unfold Go.wpOpIn
 simp only [hi]
 rcases hy with ⟨hw, hv⟩ | ⟨hw, rfl⟩
 ·simp only [hw, if_true]
  refine ⟨fun _ _ => trivial, ?_⟩
  have hs : (rnd rr).round = rr := rfl
  rw [hs, hso i o hi]
  rcases hv w hS with hr | ⟨hr, rfl⟩ | ⟨g, args, w1, hr, hc⟩ | ⟨l, g, tmps, assign, body, w1, hr, hc⟩
  ·rw [hr]; exact h
  ·rw [hr]; exact h
  ·rw [hr]
   refine ⟨rnd_depth, ?_⟩
   have hc : CallsIn Fence.wide (0 - 1) P g args w1 _ := callsIn_wide.2 hc
   refine CallsIn.mono (F := rnd rr) hc fun e w' he => ?_
   obtain ⟨rfl, rfl⟩ := he
   exact h
  ·rw [hr]
   have hc : RoundIn (rnd rr) (0 - 1) P l g tmps assign body w1 _ := hc
   refine ⟨rnd_depth, RoundIn.mono hc fun e w' he => ?_⟩
   obtain ⟨rfl, rfl⟩ := he
   exact h
 ·simp only [hw, Bool.false_eq_true, if_false]; exact ⟨fun _ _ => trivial, h⟩
theorem wpOp_later {j : Nat} {oi oj : Oper} {v : Value} (hso : SemOk rr ops) (hj : ops[j]? = some oj) (hap : oi.apart ops oj = true)
  (hsi : ∀ cs b, oi.op ≠ .select cs b) (hsj : ∀ cs b, oj.op ≠ .select cs b)
  (hQ : ∀ c a w, Q (.panic c) (a.put oi.dst v) w → Q (.panic c) a w) {K : Act → World → Prop} {a : Act} {w : World}
  (hy : YR P ops S oi v a) (h : wpOpIn (rnd rr) 0 P ops Q j K (a.put oi.dst v) w) :
  wpOpIn (rnd rr) 0 P ops Q j (fun a' w' => YR P ops S oi v a' ∧ K (a'.put oi.dst v) w') a w := by
 obtain ⟨h1, h2, h3⟩ := Oper.apart_spec hap
 have keep : ∀ (b : Act), YR P ops S oi v b → ∀ u, YR P ops S oi v (b.put oj.dst u) := fun b hb u => hb.same (execOp_put oi hsi b oj.dst u h3) (wanted_put oi b oj.dst u h3)
 have swap : ∀ (b : Act) (u : Value) w', YR P ops S oi v b → K ((b.put oi.dst v).put oj.dst u) w' → YR P ops S oi v (b.put oj.dst u) ∧ K ((b.put oj.dst u).put oi.dst v) w' := fun b u w' hb hk =>
  ⟨keep b hb u, by rw [← Act.put_comm b v u h2]; exact hk⟩
 have hw1 := wanted_put (ops := ops) oj a oi.dst v h1
 have he1 := execOp_put (ops := ops) oj hsj a oi.dst v h1
 unfold wpOpIn at h ⊢
 simp only [hj, hw1] at h ⊢
 by_cases hw : Region.wanted oj (yielded ops a.tmps) = true
 ·simp only [hw, if_true] at h ⊢
  refine ⟨fun _ _ => trivial, ?_⟩
  have h := h.2
  have hs : (rnd rr).round = rr := rfl
  rw [hs, hso j oj hj] at h ⊢
  rw [he1] at h
  revert h
  generalize (execOp a.eval oj).run P w = r
  intro h
  cases r with
  | halt x w' => cases x <;> first | exact h.elim | exact hQ _ _ _ h
  | ok m w' =>
   cases m with
   | value u => exact swap a u w' hy h
   | skip => exact swap a undef w' hy h
   | defer d =>
    have hd : YR P ops S oi v { a with defers := d :: a.defers } := hy.same rfl rfl
    refine swap _ undef w' hd ?_
    rw [← Act.put_defers]
    exact h
   | enter g args =>
    refine ⟨rnd_depth, CallsIn.mono h.2 fun e w'' he => ?_⟩
    cases e with
    | returned u => exact swap a u w'' hy he
    | panicked c => exact hQ _ _ _ he
    | outgrown => exact he
   | row r args => exact ⟨h.1, RowsIn.mono h.2 (fun u w'' he => swap a u w'' hy he)⟩
   | round l g tmps assign body =>
    refine ⟨rnd_depth, RoundIn.mono h.2 fun e w'' he => ?_⟩
    cases e with
    | returned u => exact swap a u w'' hy he
    | panicked c => exact hQ _ _ _ he
    | outgrown => exact he
   | _ => exact h.elim
 ·simp only [hw] at h ⊢
  exact ⟨fun _ _ => trivial, swap a undef w hy h.2⟩
def wpT (rr : Option Nat) (P : Program) (ops : Array Oper) (Q : Exit → Act → World → Prop) (S : World → Prop) : Nat → Array Bool → Act → World → Prop
 | 0, listed, a, w => Region.ready .any ops listed = [] ∧ Q .normal a w
 | fuel + 1, listed, a, w => (Region.ready .any ops listed = [] → Q .normal a w) ∧
  ∀ i ∈ Region.ready .any ops listed, wpOpIn (rnd rr) 0 P ops Q i (fun a' w' => S w' ∧ wpT rr P ops Q S fuel (listed.setIfInBounds i true) a' w') a w
theorem wpT_any : ∀ (fuel : Nat) (listed : Array Bool) (a : Act) (w : World), wpT rr P ops Q S fuel listed a w → wpAnyIn (rnd rr) 0 P .any ops Q fuel listed a w
 | 0, _, _, _, h => h
 | fuel + 1, _, _, _, h => ⟨h.1, fun i hi => wpOpIn_mono (fun a' w' h' => wpT_any fuel _ a' w' h'.2) (h.2 i hi)⟩
theorem wpT_mono {S' : World → Prop} (hs : ∀ w, S' w → S w) : ∀ (fuel : Nat) (listed : Array Bool) (a : Act) (w : World), wpT rr P ops Q S' fuel listed a w → wpT rr P ops Q S fuel listed a w
 | 0, _, _, _, h => h
 | fuel + 1, _, _, _, h => ⟨h.1, fun i hi => wpOpIn_mono (fun a' w' h' => ⟨hs w' h'.1, wpT_mono hs fuel _ a' w' h'.2⟩) (h.2 i hi)⟩
theorem wpT_first {i : Nat} {oi : Oper} {v : Value} (hso : SemOk rr ops) (hi : ops[i]? = some oi) (hsel : ∀ (j : Nat) (o : Oper) cs b, ops[j]? = some o → o.op ≠ .select cs b)
  (hQ : ∀ c a w, Q (.panic c) (a.put oi.dst v) w → Q (.panic c) a w) : ∀ (fuel : Nat) (listed : Array Bool) (a : Act) (w : World),
   (∀ j oj, ops[j]? = some oj → j ≠ i → listed.getD j true = false → (∀ e ∈ oj.after, Region.binds .any e = true → e.on ≠ i) → oi.apart ops oj = true) →
   i ∈ Region.ready .any ops listed → YR P ops S oi v a → S w →
   wpT rr P ops Q S fuel (listed.setIfInBounds i true) (a.put oi.dst v) w → wpT rr P ops Q S (fuel + 1) listed a w := by
 intro fuel
 induction fuel with
 | zero =>
  intro listed a w _ hr hy hS H
  refine ⟨fun h => (by rw [h] at hr; cases hr), fun j hj => ?_⟩
  by_cases hji : j = i
  ·subst hji; exact hy.wpOp hso hi hS ⟨hS, H⟩
  ·have := ready_mono hj hji
   rw [H.1] at this
   cases this
 | succ fuel ih =>
  intro listed a w hfree hr hy hS H
  refine ⟨fun h => (by rw [h] at hr; cases hr), fun j hj => ?_⟩
  by_cases hji : j = i
  ·subst hji; exact hy.wpOp hso hi hS ⟨hS, H⟩
  ·have h1 := H.2 j (ready_mono hj hji)
   obtain ⟨hjun, oj, hoj, hall⟩ := mem_ready.1 hj
   have hiun := (mem_ready.1 hr).1
   have hnot : ∀ e ∈ oj.after, Region.binds .any e = true → e.on ≠ i := by
    intro e he hb heq
    have h2 := hall e he hb
    rw [heq] at h2
    by_cases hlt : i < listed.size
    ·simp [hlt] at hiun h2; rw [hiun] at h2; cases h2
    ·simp [Array.getElem?_eq_none (Nat.le_of_not_lt hlt)] at h2
   have h2 := wpOp_later hso hoj (hfree j oj hoj hji hjun hnot) (fun cs b => hsel i oi cs b hi) (fun cs b => hsel j oj cs b hoj) hQ hy h1
   refine wpOpIn_mono (fun a' w' h3 => ⟨h3.2.1, ?_⟩) h2
   refine ih (listed.setIfInBounds j true) a' w' ?_ (ready_mono hr (Ne.symm hji)) h3.1 h3.2.1 ?_
   ·intro k ok hk hki hun hno
    refine hfree k ok hk hki ?_ hno
    by_cases hjk : j = k
    ·subst hjk; exact hjun
    ·rw [getD_set_ne true hjk] at hun; exact hun
   ·rw [Array.setIfInBounds_comm _ _ hji]
    exact h3.2.2
inductive DT where
 | done
 | stop
 | read (i : Nat) (t : DT)
 | alt (i : Nat) (t r : DT)
def DT.heads : DT → List Nat
 | .alt i _ r => i :: r.heads
 | _ => []
def DA (ops : Array Oper) : DT → Nat → Array Bool → Bool → Bool
 | .done, n, listed, b => !b && Nat.beq n 0 && (Region.ready .any ops listed).isEmpty
 | .stop, _, _, b => b
 | .read _ _, 0, _, _ => false
 | .read i t, n + 1, listed, b => !b && (Region.ready .any ops listed).contains i && Region.free .any ops listed i && DA ops t n (listed.setIfInBounds i true) false
 | .alt _ _ _, 0, _, _ => false
 | .alt i t r, n + 1, listed, b => (b || (Region.ready .any ops listed == (DT.alt i t r).heads)) && DA ops t n (listed.setIfInBounds i true) false && DA ops r (n + 1) listed true
def Bi (P : Program) (ops : Array Oper) (Z : Fr → DS → List PanicEntry → World → Prop) (K : Fr → DS → World → Prop) : DT → (World → Prop) → Fr → DS → World → Prop
 | .done, _, f, ds, w => K f ds w
 | .stop, _, _, _, _ => True
 | .read i r, S, f, ds, w => ∃ o d v, ops[i]? = some o ∧ o.dst = some d ∧
   (∀ W, S W → AW P ops (fun _ _ _ _ => False) (fun f' ds' w' => f' = upd f d v ∧ ds' = ds ∧ w' = W) [o] f ds W) ∧ Bi P ops Z K r S (upd f d v) ds w
 | .alt i t r, S, f, ds, w => (∃ o, ops[i]? = some o ∧ AW P ops Z (fun f' ds' w' => ∃ S' : World → Prop, (∀ W, S' W → S W) ∧ S' w' ∧ Bi P ops Z K t S' f' ds' w') [o] f ds w) ∧ Bi P ops Z K r S f ds w
theorem upd_inj {f : Fr} {d : Nat} {u v : Value} (h : upd f d u = upd f d v) : u = v := by
 have := congrFun h d
 simpa [upd] using this
theorem YR_of {o : Oper} {d : Nat} {v : Value} {a : Act} (hd : o.dst = some d) {w0 : World} (hS0 : S w0)
  (h : ∀ W, S W → AW P ops (fun _ _ _ _ => False) (fun f' ds' w' => f' = upd (CC a) d v ∧ ds' = a.defers ∧ w' = W) [o] (CC a) a.defers W) : YR P ops S o v a := by
 unfold YR
 rw [wanted_toFr]
 by_cases hw : A7 ops (CC a) o.guard = true
 ·refine .inl ⟨hw, fun w hw' => ?_⟩
  have h1 := h w hw'
  unfold AW at h1
  rw [if_pos hw] at h1
  unfold By at h1
  rw [ev_toFr]
  revert h1
  generalize (execOp (ev (CC a)) o).run P w = r
  intro h1
  cases r with
  | halt x w' => cases x <;> exact h1.elim
  | ok m w' =>
   cases m with
   | value u =>
    obtain ⟨e1, _, e3⟩ := h1
    simp only [hd, putF] at e1
    rw [upd_inj e1, e3]
    exact .inl rfl
   | skip =>
    obtain ⟨e1, _, e3⟩ := h1
    simp only [hd, putF] at e1
    rw [← upd_inj e1, e3]
    exact .inr (.inl ⟨rfl, rfl⟩)
   | defer d' =>
    obtain ⟨_, e2, _⟩ := h1
    exact absurd e2 (by simp)
   | enter g args =>
    refine .inr (.inr (.inl ⟨g, args, w', rfl, Calls.mono h1 fun e w'' he => ?_⟩))
    cases e with
    | returned u =>
     obtain ⟨e1, _, e3⟩ := he
     simp only [hd, putF] at e1
     exact ⟨by rw [upd_inj e1], e3⟩
    | panicked c => exact he.elim
    | outgrown => exact he.elim
   | round l g tmps assign body =>
    refine .inr (.inr (.inr ⟨l, g, tmps, assign, body, w', rfl, RoundIn.mono h1 fun e w'' he => ?_⟩))
    cases e with
    | returned u =>
     obtain ⟨e1, _, e3⟩ := he
     simp only [hd, putF] at e1
     exact ⟨by rw [upd_inj e1], e3⟩
    | panicked c => exact he.elim
    | outgrown => exact he.elim
   | _ => exact h1.elim
 ·have hw' : A7 ops (CC a) o.guard = false := by simpa using hw
  refine .inr ⟨hw', ?_⟩
  have h1 := h w0 hS0
  unfold AW at h1
  rw [if_neg hw] at h1
  obtain ⟨e1, _⟩ := h1
  simp only [hd, putF] at e1
  exact (upd_inj e1).symm
theorem wpOp_of_WOps {n : Nat} {Q : Ce} {K : Fr → DS → World → Prop} {o : Oper} {i : Nat} (hi : ops[i]? = some o) {a : Act} {w : World} (hn : a.tmps.size = n) (hok : opOk n rr.isSome o = true)
  {K' : Act → World → Prop} (hK : ∀ a' w', a'.tmps.size = n → K (CC a') a'.defers w' → K' a' w')
  (h : AW P ops (fun f ds ch w => Q (.panic ch) f ds w) K [o] (CC a) a.defers w) : wpOpIn (rnd rr) 0 P ops (liftQ n Q) i K' a w := by
 have hd : dOk n o.dst = true := by have := hok; simp only [opOk, Bool.and_eq_true] at this; exact this.1
 have next := next_of (n := n) (o := o) (a := a) (K := K) (K' := K') hn hd hK
 unfold wpOpIn
 simp only [hi, wanted_toFr]
 unfold AW at h
 by_cases hw : A7 ops (CC a) o.guard = true
 ·simp only [hw, if_true] at h ⊢
  exact uponIn_of (r := rr) hn hok next h
 ·simp only [hw] at h ⊢
  exact ⟨fun _ _ => trivial, next undef a.defers w h⟩
theorem semOk_of {n : Nat} (hok : ops.toList.all (opOk n rr.isSome) = true) : SemOk rr ops := fun j o ho ρ =>
 semAt_ok (n := n) (List.all_eq_true.1 hok o (by simpa using Array.mem_of_getElem? ho)) ρ
theorem D_sound {n : Nat} {Q : Ce} (hsel : Region.noSelect ops = true) (hok : ops.toList.all (opOk n rr.isSome) = true) (hQ : ∀ c f f' ds w, Q (.panic c) f ds w → Q (.panic c) f' ds w) :
  ∀ (order : DT) (fuel : Nat) (listed : Array Bool) (b : Bool) (S : World → Prop) (a : Act) (w : World), DA ops order fuel listed b = true → a.tmps.size = n → S w →
   Bi P ops (fun f ds ch w => Q (.panic ch) f ds w) (Q .normal) order S (CC a) a.defers w →
   (b = false → wpT rr P ops (liftQ n Q) S fuel listed a w) ∧
   (∀ k, fuel = k + 1 → ∀ j ∈ order.heads, wpOpIn (rnd rr) 0 P ops (liftQ n Q) j (fun a' w' => S w' ∧ wpT rr P ops (liftQ n Q) S k (listed.setIfInBounds j true) a' w') a w)
 | .done, fuel, listed, b, S, a, w, hc, hn, hS, h => by
  simp only [DA, Bool.and_eq_true, List.isEmpty_iff, Bool.not_eq_true'] at hc
  obtain ⟨⟨rfl, h2⟩, h3⟩ := hc
  obtain rfl := Nat.eq_of_beq_eq_true h2
  exact ⟨fun _ => ⟨h3, hn, h⟩, fun _ _ j hj => by simp [DT.heads] at hj⟩
 | .stop, fuel, listed, b, S, a, w, hc, hn, hS, h => by
  simp only [DA] at hc
  subst hc
  exact ⟨(fun h => by cases h), fun _ _ j hj => by simp [DT.heads] at hj⟩
 | .read i r, 0, listed, b, S, a, w, hc, hn, hS, h => by simp [DA] at hc
 | .read i r, fuel + 1, listed, b, S, a, w, hc, hn, hS, h => by
  simp only [DA, Bool.and_eq_true, Bool.not_eq_true'] at hc
  obtain ⟨⟨⟨h0, h1⟩, h2⟩, h3⟩ := hc
  obtain ⟨o, d, v, ho, hd, hy, hk⟩ := h
  have hdo : opOk n rr.isSome o = true := List.all_eq_true.1 hok o (by simpa using Array.mem_of_getElem? ho)
  have hdn : dOk n o.dst = true := by have := hdo; simp only [opOk, Bool.and_eq_true] at this; exact this.1
  have hlt : d < a.tmps.size := by rw [hd] at hdn; simpa [dOk, Nat.blt_eq, hn] using hdn
  have hpanic : ∀ c (a' : Act) (w' : World), liftQ n Q (.panic c) (a'.put o.dst v) w' → liftQ n Q (.panic c) a' w' := fun c a' w' hq =>
   ⟨by simpa [size_put] using hq.1, hQ c _ _ _ _ (by have := hq.2; rw [defers_put] at this; exact this)⟩
  refine ⟨fun _ => wpT_first (semOk_of hok) ho (Region.noSelect_spec hsel) hpanic fuel listed a w (Region.free_spec ho h2) (by simpa using h1) (YR_of hd hS hy) hS ?_, fun _ _ j hj => by simp [DT.heads] at hj⟩
  refine (D_sound hsel hok hQ r fuel _ false S (a.put o.dst v) w h3 (by rw [size_put]; exact hn) hS ?_).1 rfl
  rw [defers_put, hd, toFr_put v hlt]
  exact hk
 | .alt i t r, 0, listed, b, S, a, w, hc, hn, hS, h => by simp [DA] at hc
 | .alt i t r, fuel + 1, listed, b, S, a, w, hc, hn, hS, h => by
  simp only [DA, Bool.and_eq_true] at hc
  obtain ⟨⟨h1, h2⟩, h3⟩ := hc
  obtain ⟨⟨o, ho, hk⟩, hrest⟩ := h
  have hdn : opOk n rr.isSome o = true := List.all_eq_true.1 hok o (by simpa using Array.mem_of_getElem? ho)
  have hall : ∀ j ∈ (DT.alt i t r).heads, wpOpIn (rnd rr) 0 P ops (liftQ n Q) j (fun a' w' => S w' ∧ wpT rr P ops (liftQ n Q) S fuel (listed.setIfInBounds j true) a' w') a w := by
   intro j hj
   simp only [DT.heads, List.mem_cons] at hj
   rcases hj with rfl | hj
   ·refine wpOp_of_WOps ho hn hdn ?_ hk
    rintro a' w' hn' ⟨S', hs, hS', hd⟩
    exact ⟨hs w' hS', wpT_mono hs _ _ _ _ ((D_sound hsel hok hQ t fuel _ false S' a' w' h2 hn' hS' hd).1 rfl)⟩
   ·exact (D_sound hsel hok hQ r (fuel + 1) listed true S a w h3 hn hS hrest).2 fuel rfl j hj
  refine ⟨fun hb => ?_, fun k hk j hj => ?_⟩
  ·subst hb
   simp only [Bool.false_or, beq_iff_eq] at h1
   exact ⟨fun h0 => (by rw [h0] at h1; simp [DT.heads] at h1), fun j hj => hall j (by rw [← h1]; exact hj)⟩
  ·obtain rfl : fuel = k := by omega
   exact hall j hj
theorem C_drawS {n : Cf} {Q : Ce} {id : Nat} {l : List Oper} {f : Fr} {ds : DS} {w : World} (order : DT) (S : World → Prop) (hm : P.follows .mixedOrders = true)
  (hc : (Region.noSelect l.toArray && (l.all (opOk n.n n.r.isSome)) && DA l.toArray order l.length (Array.replicate l.length false) false) = true)
  (hQ : ∀ c f f' ds w, Q (.panic c) f ds w → Q (.panic c) f' ds w) (hS : S { w with drawn := w.drawn + 1 })
  (h : Bi P l.toArray (fun f ds ch w => Q (.panic ch) f ds w) (Q .normal) order S f ds { w with drawn := w.drawn + 1 }) : WC P n (.region id l.toArray true) Q f ds w := by
 simp only [Bool.and_eq_true] at hc
 obtain ⟨⟨h1, h2⟩, h3⟩ := hc
 rintro a hn rfl rfl
 refine wpIn_region_any hm (wpT_any (S := S) _ _ _ _ ?_)
 have := (D_sound (P := P) (rr := n.r) (ops := l.toArray) h1 (by simpa using h2) hQ order _ _ false S a _ h3 hn hS h).1 rfl
 simpa using this
section
variable {Z : Fr → DS → List PanicEntry → World → Prop} {K : Fr → DS → World → Prop} {r t : DT} {f : Fr} {ds : DS} {w : World} {i d : Nat} {o : Oper} {v : Value}
theorem A8 (h : K f ds w) : Bi P ops Z K .done S f ds w := h
theorem D_R (ho : ops[i]? = some o) (hd : o.dst = some d) (hy : ∀ W, S W → AW P ops (fun _ _ _ _ => False) (fun f' ds' w' => f' = upd f d v ∧ ds' = ds ∧ w' = W) [o] f ds W)
  (h : Bi P ops Z K r S (upd f d v) ds w) : Bi P ops Z K (.read i r) S f ds w := ⟨o, d, v, ho, hd, hy, h⟩
theorem D_E (ho : ops[i]? = some o) (h : AW P ops Z (fun f' ds' w' => ∃ S' : World → Prop, (∀ W, S' W → S W) ∧ S' w' ∧ Bi P ops Z K t S' f' ds' w') [o] f ds w) :
  Bi P ops Z K (.alt i t .stop) S f ds w := ⟨⟨o, ho, h⟩, trivial⟩
theorem D_A (ho : ops[i]? = some o) (h : AW P ops Z (fun f' ds' w' => ∃ S' : World → Prop, (∀ W, S' W → S W) ∧ S' w' ∧ Bi P ops Z K t S' f' ds' w') [o] f ds w) (h2 : Bi P ops Z K r S f ds w) :
  Bi P ops Z K (.alt i t r) S f ds w := ⟨⟨o, ho, h⟩, h2⟩
theorem DL (ho : ops[i]? = some o) (hd : o.dst = some d) (hg : A7 ops f o.guard = true) (hr : ∀ W, (execOp (ev f) o).run P W = .ok (.value v) W) (h : Bi P ops Z K r S (upd f d v) ds w) : Bi P ops Z K (.read i r) S f ds w := by
 refine D_R ho hd (fun W _ => ?_) h
 unfold AW
 rw [if_pos hg]
 unfold By
 rw [hr W]
 exact ⟨by rw [hd]; rfl, rfl, rfl⟩
theorem Af {j : Nat} {want : Bool} (ho : ops[i]? = some o) (hd : o.dst = some d) (hg : o.guard = some (j, want)) (hv : guardVal ops f j = some (!want)) (h : Bi P ops Z K r S (upd f d undef) ds w) : Bi P ops Z K (.read i r) S f ds w := by
 refine D_R ho hd (fun W _ => ?_) h
 unfold AW
 have e : A7 ops f o.guard = false := by rw [hg]; simp only [A7, hv]; cases want <;> rfl
 rw [e]
 exact ⟨by rw [hd]; rfl, rfl, rfl⟩
section cmp
variable {xt yt ty : TypeId} {x y : Operand} {k : IntKind} {a b : Int} {pos : String} {af : Array Edge} {g : Option (Nat × Bool)}
theorem D_lss (ho : ops[i]? = some ⟨some d, .binOp .lss xt x y yt, ty, pos, af, g⟩) (hg : A7 ops f g = true) (hx : ev f x = .int k a) (hy : ev f y = .int k b)
  (ht : a < b → Bi P ops Z K r S (upd f d (.bool true)) ds w) (hf : b ≤ a → Bi P ops Z K r S (upd f d (.bool false)) ds w) : Bi P ops Z K (.read i r) S f ds w := by
 by_cases hc : a < b
 ·exact DL ho rfl hg (fun W => by simp [execOp, hx, hy, eqGuard, binOp, Op.intCmp, hc]) (ht hc)
 ·exact DL ho rfl hg (fun W => by simp [execOp, hx, hy, eqGuard, binOp, Op.intCmp, hc]) (hf (by omega))
theorem D_leq (ho : ops[i]? = some ⟨some d, .binOp .leq xt x y yt, ty, pos, af, g⟩) (hg : A7 ops f g = true) (hx : ev f x = .int k a) (hy : ev f y = .int k b)
  (ht : a ≤ b → Bi P ops Z K r S (upd f d (.bool true)) ds w) (hf : b < a → Bi P ops Z K r S (upd f d (.bool false)) ds w) : Bi P ops Z K (.read i r) S f ds w := by
 by_cases hc : a ≤ b
 ·exact DL ho rfl hg (fun W => by simp [execOp, hx, hy, eqGuard, binOp, Op.intCmp, hc]) (ht hc)
 ·exact DL ho rfl hg (fun W => by simp [execOp, hx, hy, eqGuard, binOp, Op.intCmp, hc]) (hf (by omega))
theorem D_gtr (ho : ops[i]? = some ⟨some d, .binOp .gtr xt x y yt, ty, pos, af, g⟩) (hg : A7 ops f g = true) (hx : ev f x = .int k a) (hy : ev f y = .int k b)
  (ht : b < a → Bi P ops Z K r S (upd f d (.bool true)) ds w) (hf : a ≤ b → Bi P ops Z K r S (upd f d (.bool false)) ds w) : Bi P ops Z K (.read i r) S f ds w := by
 by_cases hc : b < a
 ·exact DL ho rfl hg (fun W => by simp [execOp, hx, hy, eqGuard, binOp, Op.intCmp, hc]) (ht hc)
 ·exact DL ho rfl hg (fun W => by simp [execOp, hx, hy, eqGuard, binOp, Op.intCmp, hc]) (hf (by omega))
theorem D_geq (ho : ops[i]? = some ⟨some d, .binOp .geq xt x y yt, ty, pos, af, g⟩) (hg : A7 ops f g = true) (hx : ev f x = .int k a) (hy : ev f y = .int k b)
  (ht : b ≤ a → Bi P ops Z K r S (upd f d (.bool true)) ds w) (hf : a < b → Bi P ops Z K r S (upd f d (.bool false)) ds w) : Bi P ops Z K (.read i r) S f ds w := by
 by_cases hc : b ≤ a
 ·exact DL ho rfl hg (fun W => by simp [execOp, hx, hy, eqGuard, binOp, Op.intCmp, hc]) (ht hc)
 ·exact DL ho rfl hg (fun W => by simp [execOp, hx, hy, eqGuard, binOp, Op.intCmp, hc]) (hf (by omega))
theorem D_eql (ho : ops[i]? = some ⟨some d, .binOp .eql xt x y yt, ty, pos, af, g⟩) (hg : A7 ops f g = true) (hx : ev f x = .int k a) (hy : ev f y = .int k b)
  (ht : a = b → Bi P ops Z K r S (upd f d (.bool true)) ds w) (hf : a ≠ b → Bi P ops Z K r S (upd f d (.bool false)) ds w) : Bi P ops Z K (.read i r) S f ds w := by
 by_cases hc : a = b
 ·exact DL ho rfl hg (fun W => by simp [execOp, hx, hy, eqGuard, binOp, Op.intCmp, hc]) (ht hc)
 ·exact DL ho rfl hg (fun W => by simp [execOp, hx, hy, eqGuard, binOp, Op.intCmp, hc]) (hf hc)
theorem D_neq (ho : ops[i]? = some ⟨some d, .binOp .neq xt x y yt, ty, pos, af, g⟩) (hg : A7 ops f g = true) (hx : ev f x = .int k a) (hy : ev f y = .int k b)
  (ht : a ≠ b → Bi P ops Z K r S (upd f d (.bool true)) ds w) (hf : a = b → Bi P ops Z K r S (upd f d (.bool false)) ds w) : Bi P ops Z K (.read i r) S f ds w := by
 by_cases hc : a = b
 ·exact DL ho rfl hg (fun W => by simp [execOp, hx, hy, eqGuard, binOp, Op.intCmp, hc]) (hf hc)
 ·exact DL ho rfl hg (fun W => by simp [execOp, hx, hy, eqGuard, binOp, Op.intCmp, hc]) (ht hc)
theorem D_seql {s t : List UInt8} (ho : ops[i]? = some ⟨some d, .binOp .eql xt x y yt, ty, pos, af, g⟩) (hg : A7 ops f g = true) (hx : ev f x = AL s) (hy : ev f y = AL t)
  (ht : s = t → Bi P ops Z K r S (upd f d (.bool true)) ds w) (hf : s ≠ t → Bi P ops Z K r S (upd f d (.bool false)) ds w) : Bi P ops Z K (.read i r) S f ds w := by
 by_cases hc : s = t
 ·exact DL ho rfl hg (fun W => by simp [execOp, hx, hy, eqGuard, binOp, Op.stringOp, hc]) (ht hc)
 ·exact DL ho rfl hg (fun W => by simp [execOp, hx, hy, eqGuard, binOp, Op.stringOp, hc]) (hf hc)
theorem D_sneq {s t : List UInt8} (ho : ops[i]? = some ⟨some d, .binOp .neq xt x y yt, ty, pos, af, g⟩) (hg : A7 ops f g = true) (hx : ev f x = AL s) (hy : ev f y = AL t)
  (ht : s ≠ t → Bi P ops Z K r S (upd f d (.bool true)) ds w) (hf : s = t → Bi P ops Z K r S (upd f d (.bool false)) ds w) : Bi P ops Z K (.read i r) S f ds w := by
 by_cases hc : s = t
 ·exact DL ho rfl hg (fun W => by simp [execOp, hx, hy, eqGuard, binOp, Op.stringOp, hc]) (hf hc)
 ·exact DL ho rfl hg (fun W => by simp [execOp, hx, hy, eqGuard, binOp, Op.stringOp, hc]) (ht hc)
end cmp
end
theorem B3 {n : Cf} {Q : Ce} {id : Nat} {l : List Oper} {f : Fr} {ds : DS} {w : World} (order : DT) (hm : P.follows .mixedOrders = true)
  (hc : (Region.noSelect l.toArray && (l.all (opOk n.n n.r.isSome)) && DA l.toArray order l.length (Array.replicate l.length false) false) = true)
  (hQ : ∀ c f f' ds w, Q (.panic c) f ds w → Q (.panic c) f' ds w)
  (h : ∀ w1, Ext w w1 → w1.heap = w.heap → ∃ S : World → Prop, S w1 ∧ Bi P l.toArray (fun f ds ch w => Q (.panic ch) f ds w) (Q .normal) order S f ds w1) : WC P n (.region id l.toArray true) Q f ds w := by
 obtain ⟨S, hS, hd⟩ := h { w with drawn := w.drawn + 1 } ⟨rfl, rfl, rfl, Nat.le_refl _, fun _ _ _ => rfl, fun _ => mark_heap rfl⟩ rfl
 exact C_drawS order S hm hc hQ hS hd
theorem Bb {n : Cf} {Q : Ce} {id : Nat} {l : List Oper} {f : Fr} {ds : DS} {w : World} (order : DT) (hm : P.follows .mixedOrders = true)
  (hc : (Region.noSelect l.toArray && (l.all (opOk n.n n.r.isSome)) && DA l.toArray order l.length (Array.replicate l.length false) false) = true)
  (h : ∀ w1, Ext w w1 → w1.heap = w.heap → ∃ S : World → Prop, S w1 ∧ Bi P l.toArray (fun _ _ _ _ => False) (Q .normal) order S f ds w1) : WC P n (.region id l.toArray true) Q f ds w := by
 have := B3 (P := P) (n := n) (Q := fun e f ds w => match e with | .normal => Q .normal f ds w | _ => False) (id := id) order hm hc (fun _ _ _ _ _ h => h) h
 rintro a hn rfl rfl
 refine wpIn_mono (this a hn rfl rfl) ?_
 intro e a w hq
 obtain ⟨h1, h2⟩ := hq
 cases e with
 | normal => exact ⟨h1, h2⟩
 | _ => exact h2.elim
theorem BW {fn : Func} {R : Value → World → Prop} {Y : List PanicEntry → World → Prop} : ∀ c f f' ds w, Cw P fn R Y (.panic c) f ds w → Cw P fn R Y (.panic c) f' ds w := fun _ _ _ _ _ h => h
theorem BI {k : Fr → DS → World → Prop} {Q : Ce} (hQ : ∀ c f f' ds w, Q (.panic c) f ds w → Q (.panic c) f' ds w) : ∀ c f f' ds w, B6 k Q (.panic c) f ds w → B6 k Q (.panic c) f' ds w := hQ
theorem Bw {id : Nat} {Q : Ce} (hQ : ∀ c f f' ds w, Q (.panic c) f ds w → Q (.panic c) f' ds w) : ∀ c f f' ds w, BZ id Q (.panic c) f ds w → BZ id Q (.panic c) f' ds w := hQ
attribute [irreducible] Bi
end Go.Proofs.YtfcgdbmoncnibaaGreatDoor
namespace Go.Proofs.YtfcgdbmoncnibaaGreatDoor
open Go.RowKit
set_option linter.unusedVariables false
section
variable {P : Program} {all : Array Oper} {Z : Fr → DS → List PanicEntry → World → Prop} {K : Fr → DS → World → Prop} {rest : List Oper} {f : Fr} {ds : DS} {w : World}
 {d : Nat} {ty : TypeId} {pos : String} {af : Array Edge} {x y : Operand} {xt yt : TypeId} {k : IntKind} {a b : Int}
theorem BC (hx : ev f x = .int k a) (hy : ev f y = .int k b) (c : a < b) (h : AW P all Z K rest (upd f d (.bool true)) ds w) : AW P all Z K (⟨some d, .binOp .lss xt x y yt, ty, pos, af, none⟩ :: rest) f ds w := W_lss hx hy (fun _ => h) fun e => absurd e (by omega)
theorem BA (hx : ev f x = .int k a) (hy : ev f y = .int k b) (c : b ≤ a) (h : AW P all Z K rest (upd f d (.bool false)) ds w) : AW P all Z K (⟨some d, .binOp .lss xt x y yt, ty, pos, af, none⟩ :: rest) f ds w := W_lss hx hy (fun e => absurd e (by omega)) fun _ => h
theorem C2 (hx : ev f x = .int k a) (hy : ev f y = .int k b) (c : a ≤ b) (h : AW P all Z K rest (upd f d (.bool true)) ds w) : AW P all Z K (⟨some d, .binOp .leq xt x y yt, ty, pos, af, none⟩ :: rest) f ds w := W_leq hx hy (fun _ => h) fun e => absurd e (by omega)
theorem DM (hx : ev f x = .int k a) (hy : ev f y = .int k b) (c : b < a) (h : AW P all Z K rest (upd f d (.bool false)) ds w) : AW P all Z K (⟨some d, .binOp .leq xt x y yt, ty, pos, af, none⟩ :: rest) f ds w := W_leq hx hy (fun e => absurd e (by omega)) fun _ => h
theorem DI (hx : ev f x = .int k a) (hy : ev f y = .int k b) (c : b < a) (h : AW P all Z K rest (upd f d (.bool true)) ds w) : AW P all Z K (⟨some d, .binOp .gtr xt x y yt, ty, pos, af, none⟩ :: rest) f ds w := W_gtr hx hy (fun _ => h) fun e => absurd e (by omega)
theorem DF (hx : ev f x = .int k a) (hy : ev f y = .int k b) (c : a ≤ b) (h : AW P all Z K rest (upd f d (.bool false)) ds w) : AW P all Z K (⟨some d, .binOp .gtr xt x y yt, ty, pos, af, none⟩ :: rest) f ds w := W_gtr hx hy (fun e => absurd e (by omega)) fun _ => h
theorem W_geqT (hx : ev f x = .int k a) (hy : ev f y = .int k b) (c : b ≤ a) (h : AW P all Z K rest (upd f d (.bool true)) ds w) : AW P all Z K (⟨some d, .binOp .geq xt x y yt, ty, pos, af, none⟩ :: rest) f ds w := W_geq hx hy (fun _ => h) fun e => absurd e (by omega)
theorem W_geqF (hx : ev f x = .int k a) (hy : ev f y = .int k b) (c : a < b) (h : AW P all Z K rest (upd f d (.bool false)) ds w) : AW P all Z K (⟨some d, .binOp .geq xt x y yt, ty, pos, af, none⟩ :: rest) f ds w := W_geq hx hy (fun e => absurd e (by omega)) fun _ => h
theorem Av (hx : ev f x = .int k a) (hy : ev f y = .int k b) (c : a = b) (h : AW P all Z K rest (upd f d (.bool true)) ds w) : AW P all Z K (⟨some d, .binOp .eql xt x y yt, ty, pos, af, none⟩ :: rest) f ds w := B0 hx hy (fun _ => h) fun e => absurd c e
theorem AN (hx : ev f x = .int k a) (hy : ev f y = .int k b) (c : ¬a = b) (h : AW P all Z K rest (upd f d (.bool false)) ds w) : AW P all Z K (⟨some d, .binOp .eql xt x y yt, ty, pos, af, none⟩ :: rest) f ds w := B0 hx hy (fun e => absurd e c) fun _ => h
theorem W_neqT (hx : ev f x = .int k a) (hy : ev f y = .int k b) (c : ¬a = b) (h : AW P all Z K rest (upd f d (.bool true)) ds w) : AW P all Z K (⟨some d, .binOp .neq xt x y yt, ty, pos, af, none⟩ :: rest) f ds w := W_neq hx hy (fun _ => h) fun e => absurd e c
theorem W_neqF (hx : ev f x = .int k a) (hy : ev f y = .int k b) (c : a = b) (h : AW P all Z K rest (upd f d (.bool false)) ds w) : AW P all Z K (⟨some d, .binOp .neq xt x y yt, ty, pos, af, none⟩ :: rest) f ds w := W_neq hx hy (fun e => absurd c e) fun _ => h
theorem Z3 {v : Value} : AW P all Z (fun f' ds' w' => f' = upd f d v ∧ ds' = ds ∧ w' = w) [] (upd f d v) ds w := AJ ⟨rfl, rfl, rfl⟩
end
section
variable {P : Program} {ops : Array Oper} {Z : Fr → DS → List PanicEntry → World → Prop} {K : Fr → DS → World → Prop} {S : World → Prop} {f : Fr} {ds : DS} {w : World} {i d : Nat} {r : DT} {xt yt ty : TypeId} {x y : Operand} {k : IntKind} {a b : Int} {pos : String} {af : Array Edge} {g : Option (Nat × Bool)}
theorem D_lssT (ho : ops[i]? = some ⟨some d, .binOp .lss xt x y yt, ty, pos, af, g⟩) (hg : A7 ops f g = true) (hx : ev f x = .int k a) (hy : ev f y = .int k b) (c : a < b) (h : Bi P ops Z K r S (upd f d (.bool true)) ds w) : Bi P ops Z K (.read i r) S f ds w := D_lss ho hg hx hy (fun _ => h) (fun e => absurd e (by omega))
theorem D_lssF (ho : ops[i]? = some ⟨some d, .binOp .lss xt x y yt, ty, pos, af, g⟩) (hg : A7 ops f g = true) (hx : ev f x = .int k a) (hy : ev f y = .int k b) (c : b ≤ a) (h : Bi P ops Z K r S (upd f d (.bool false)) ds w) : Bi P ops Z K (.read i r) S f ds w := D_lss ho hg hx hy (fun e => absurd e (by omega)) fun _ => h
theorem D_leqT (ho : ops[i]? = some ⟨some d, .binOp .leq xt x y yt, ty, pos, af, g⟩) (hg : A7 ops f g = true) (hx : ev f x = .int k a) (hy : ev f y = .int k b) (c : a ≤ b) (h : Bi P ops Z K r S (upd f d (.bool true)) ds w) : Bi P ops Z K (.read i r) S f ds w := D_leq ho hg hx hy (fun _ => h) (fun e => absurd e (by omega))
theorem D_leqF (ho : ops[i]? = some ⟨some d, .binOp .leq xt x y yt, ty, pos, af, g⟩) (hg : A7 ops f g = true) (hx : ev f x = .int k a) (hy : ev f y = .int k b) (c : b < a) (h : Bi P ops Z K r S (upd f d (.bool false)) ds w) : Bi P ops Z K (.read i r) S f ds w := D_leq ho hg hx hy (fun e => absurd e (by omega)) fun _ => h
theorem D_gtrT (ho : ops[i]? = some ⟨some d, .binOp .gtr xt x y yt, ty, pos, af, g⟩) (hg : A7 ops f g = true) (hx : ev f x = .int k a) (hy : ev f y = .int k b) (c : b < a) (h : Bi P ops Z K r S (upd f d (.bool true)) ds w) : Bi P ops Z K (.read i r) S f ds w := D_gtr ho hg hx hy (fun _ => h) (fun e => absurd e (by omega))
theorem D_gtrF (ho : ops[i]? = some ⟨some d, .binOp .gtr xt x y yt, ty, pos, af, g⟩) (hg : A7 ops f g = true) (hx : ev f x = .int k a) (hy : ev f y = .int k b) (c : a ≤ b) (h : Bi P ops Z K r S (upd f d (.bool false)) ds w) : Bi P ops Z K (.read i r) S f ds w := D_gtr ho hg hx hy (fun e => absurd e (by omega)) fun _ => h
theorem D_geqT (ho : ops[i]? = some ⟨some d, .binOp .geq xt x y yt, ty, pos, af, g⟩) (hg : A7 ops f g = true) (hx : ev f x = .int k a) (hy : ev f y = .int k b) (c : b ≤ a) (h : Bi P ops Z K r S (upd f d (.bool true)) ds w) : Bi P ops Z K (.read i r) S f ds w := D_geq ho hg hx hy (fun _ => h) (fun e => absurd e (by omega))
theorem D_geqF (ho : ops[i]? = some ⟨some d, .binOp .geq xt x y yt, ty, pos, af, g⟩) (hg : A7 ops f g = true) (hx : ev f x = .int k a) (hy : ev f y = .int k b) (c : a < b) (h : Bi P ops Z K r S (upd f d (.bool false)) ds w) : Bi P ops Z K (.read i r) S f ds w := D_geq ho hg hx hy (fun e => absurd e (by omega)) fun _ => h
theorem D_eqlT (ho : ops[i]? = some ⟨some d, .binOp .eql xt x y yt, ty, pos, af, g⟩) (hg : A7 ops f g = true) (hx : ev f x = .int k a) (hy : ev f y = .int k b) (c : a = b) (h : Bi P ops Z K r S (upd f d (.bool true)) ds w) : Bi P ops Z K (.read i r) S f ds w := D_eql ho hg hx hy (fun _ => h) (fun e => absurd c e)
theorem D_eqlF (ho : ops[i]? = some ⟨some d, .binOp .eql xt x y yt, ty, pos, af, g⟩) (hg : A7 ops f g = true) (hx : ev f x = .int k a) (hy : ev f y = .int k b) (c : ¬a = b) (h : Bi P ops Z K r S (upd f d (.bool false)) ds w) : Bi P ops Z K (.read i r) S f ds w := D_eql ho hg hx hy (fun e => absurd e c) fun _ => h
theorem D_neqT (ho : ops[i]? = some ⟨some d, .binOp .neq xt x y yt, ty, pos, af, g⟩) (hg : A7 ops f g = true) (hx : ev f x = .int k a) (hy : ev f y = .int k b) (c : ¬a = b) (h : Bi P ops Z K r S (upd f d (.bool true)) ds w) : Bi P ops Z K (.read i r) S f ds w := D_neq ho hg hx hy (fun _ => h) (fun e => absurd e c)
theorem D_neqF (ho : ops[i]? = some ⟨some d, .binOp .neq xt x y yt, ty, pos, af, g⟩) (hg : A7 ops f g = true) (hx : ev f x = .int k a) (hy : ev f y = .int k b) (c : a = b) (h : Bi P ops Z K r S (upd f d (.bool false)) ds w) : Bi P ops Z K (.read i r) S f ds w := D_neq ho hg hx hy (fun e => absurd c e) fun _ => h
end
end Go.Proofs.YtfcgdbmoncnibaaGreatDoor
namespace Go.Proofs.YtfcgdbmoncnibaaGreatDoor
open Go.RowKit
variable {mk : Prop} [MK mk]
attribute [local semireducible] WC AW B6 BZ B8 Cw DY By
variable {P : Program} {all : Array Oper} {Z : Fr → DS → List PanicEntry → World → Prop} {K : Fr → DS → World → Prop} {rest : List Oper} {f : Fr} {ds : DS} {w : World}
 {d : Nat} {ty : TypeId} {pos : String} {af : Array Edge}
def Lp (w : World) (l n : Nat) (ps : List Nat) (asn body : Code) (f : Fr) (st : LoopState) (pend : Option Code) : Prop :=
 ∃ fn tmps blk, w.heap[l]? = some (.loop ⟨st, pend, fn, tmps, ps.toArray, asn, body, blk⟩) ∧ tmps.size = n ∧ CC { tmps := tmps, defers := [] } = f
theorem Lp.lt {l n : Nat} {ps : List Nat} {asn body : Code} {st : LoopState} {pend : Option Code} (h : Lp w l n ps asn body f st pend) : l < w.heap.size := by
 obtain ⟨_, _, _, h, _⟩ := h
 exact (Array.getElem?_eq_some_iff.1 h).1
theorem Lp.keep {X : List Nat} {w' : World} {l n : Nat} {ps : List Nat} {asn body : Code} {st : LoopState} {pend : Option Code} (h : Lp w l n ps asn body f st pend) (k : Keep X w w') (hl : l ∉ X) : Lp w' l n ps asn body f st pend := by
 have hlt := h.lt
 obtain ⟨fn, tmps, blk, h1, h2⟩ := h
 exact ⟨fn, tmps, blk, (k.block l hlt hl).trans h1, h2⟩
theorem run_getLoop {l : Nat} {r : Loop} (h : w.heap[l]? = some (.loop r)) : (Instr.getLoop l).run P w = .ok r w := by
 simp [Instr.getLoop, getObj, Sem.run, h]
def setO (w : World) (l : Nat) (o : Obj) : World := { w with heap := w.heap.setIfInBounds l o }
theorem run_setLoop {l : Nat} {r : Loop} (o : Obj) (h : w.heap[l]? = some (.loop r)) : (setObj l o).run P w = .ok () (setO w l o) := by
 simp [setObj, Sem.run, h, setO]
theorem setO_other (l : Nat) (o : Obj) (k : Nat) (hk : k ≠ l) : (setO w l o).heap[k]? = w.heap[k]? := by
 simp only [setO]; rw [Array.getElem?_setIfInBounds_ne (by simpa [eq_comm] using hk)]
theorem setO_keep (l : Nat) (o : Obj) (ho : ∀ c t fr, o ≠ .cells c t fr) : Keep [l] w (setO w l o) := ⟨rfl, rfl, rfl, by simp [setO], fun k _ hk => setO_other l o k (by simpa using hk), fun _ => mark_put (g := l) (by simp [setO]) (setO_other l o) fun c t fr e => by
 by_cases h : l < w.heap.size
 ·have : (setO w l o).heap[l]? = some o := by simp [setO, h]
  rw [this] at e
  cases e
  exact absurd rfl (ho c t fr)
 ·rw [Array.getElem?_eq_none (by simp [setO]; omega)] at e; cases e⟩
theorem setO_size (l : Nat) (o : Obj) : (setO w l o).heap.size = w.heap.size := by simp [setO]
theorem setO_get {l : Nat} (o : Obj) (h : l < w.heap.size) : (setO w l o).heap[l]? = some o := by simp [setO, h]
def YldP (P : Program) (yv : Value) (args : List Value) (w : World) (R : Value → World → Prop) (Z : List PanicEntry → World → Prop) : Prop :=
 ∃ y g tmps asn body w1, yv = .func (.yield y) #[] #[] ∧ (Instr.yield y args.toArray).run P w = .ok (.round y g tmps asn body) w1 ∧
  RoundIn Fence.wide 0 P y g tmps asn body w1 fun e w'' => match e with | .returned v => R v w'' | .panicked ch => Z ch w'' | .outgrown => False
theorem YldP.mono {yv : Value} {args : List Value} {R R' : Value → World → Prop} {Y Y' : List PanicEntry → World → Prop} (h : YldP P yv args w R Y) (hr : ∀ v w', R v w' → R' v w') (hz : ∀ ch w', Y ch w' → Y' ch w') : YldP P yv args w R' Y' := by
 obtain ⟨y, g, tmps, asn, body, w1, h1, h2, h3⟩ := h
 refine ⟨y, g, tmps, asn, body, w1, h1, h2, RoundIn.mono h3 fun e w' he => ?_⟩
 cases e with
 | returned v => exact hr v w' he
 | panicked ch => exact hz ch w' he
 | outgrown => exact he
theorem W_yieldP {t : Nat} {yv : Value} {xs : List Operand} {ats : Array TypeId} {vs : List Value} {R : Value → World → Prop} {Y : List PanicEntry → World → Prop}
  (hf : f t = yv) (ha : evL f xs = vs) (hc : YldP P yv vs w R Y) (h : ∀ v w', R v w' → AW P all Z K rest (upd f d v) ds w') (hz : ∀ ch w', Y ch w' → Z f ds ch w') :
  AW P all Z K (⟨some d, .call ⟨.value (.tmp t), xs.toArray, ats⟩, ty, pos, af, none⟩ :: rest) f ds w := by
 obtain ⟨y, g, tmps, asn, body, w1, rfl, h2, h3⟩ := hc
 have hr : (execOp (ev f) ⟨some d, .call ⟨.value (.tmp t), xs.toArray, ats⟩, ty, pos, af, none⟩).run P w = .ok (.round y g tmps asn body) w1 := by
  rw [evL_map] at ha
  simp only [execOp, resolve, ev, hf, Deferred.ofValue, Sem.run_bind, Sem.run_pure, Result.andThen_ok, invoke]
  simp [ha, h2]
 unfold AW
 simp only [A7, if_true, By, hr]
 refine RoundIn.mono h3 fun e w' he => ?_
 cases e with
 | returned v => exact h v w' he
 | panicked ch => exact hz ch w' he
 | outgrown => exact he
theorem W_yield {t : Nat} {yv : Value} {xs : List Operand} {ats : Array TypeId} {vs : List Value} {R : Value → World → Prop}
  (hf : f t = yv) (ha : evL f xs = vs) (hc : YldP P yv vs w R fun _ _ => False) (h : ∀ v w', R v w' → AW P all Z K rest (upd f d v) ds w') :
  AW P all Z K (⟨some d, .call ⟨.value (.tmp t), xs.toArray, ats⟩, ty, pos, af, none⟩ :: rest) f ds w := W_yieldP hf ha hc h fun _ _ h => h.elim
def ovz : List (Nat × Value) → Fr → Fr
 | [], f => f
 | (t, v) :: l, f => ovz l (upd f t v)
theorem size_sets : ∀ (l : List (Nat × Value)) (tmps : Array Value), (l.foldl (fun tmps (p : Nat × Value) => tmps.setIfInBounds p.1 p.2) tmps).size = tmps.size
 | [], _ => rfl
 | _ :: l, tmps => by rw [List.foldl_cons, size_sets l]; simp
theorem toFr_sets : ∀ (l : List (Nat × Value)) (tmps : Array Value), (∀ p ∈ l, p.1 < tmps.size) →
  CC { tmps := l.foldl (fun tmps (p : Nat × Value) => tmps.setIfInBounds p.1 p.2) tmps, defers := [] } = ovz l (CC { tmps := tmps, defers := [] })
 | [], _, _ => rfl
 | (t, v) :: l, tmps, h => by
  rw [List.foldl_cons, toFr_sets l _ (by intro p hp; rw [Array.size_setIfInBounds]; exact h p (by simp [hp]))]
  simp only [ovz]
  congr 1
  exact toFr_put (a := { tmps := tmps, defers := [] }) (d := t) v (h (t, v) (by simp))
def rndQ (l n : Nat) (ps : List Nat) (asn body : Code) (f0 : Fr) (R : Value → World → Prop) : Ce
 | .normal => fun _ _ w => (∃ st pd, Lp w l n ps asn body f0 st pd) ∧ ∀ w', Keep [l] w w' → w'.heap.size = w.heap.size → Lp w' l n ps asn body f0 .ready none → R (.bool true) w'
 | .ret => fun _ _ w => (∃ st pd, Lp w l n ps asn body f0 st pd) ∧ ∀ w', Keep [l] w w' → w'.heap.size = w.heap.size → Lp w' l n ps asn body f0 .done (some .ret) → R (.bool false) w'
 | .exit i => fun _ _ w => (∃ st pd, Lp w l n ps asn body f0 st pd) ∧ ∀ w', Keep [l] w w' → w'.heap.size = w.heap.size → Lp w' l n ps asn body f0 .done (some (.exit i)) → R (.bool false) w'
 | _ => fun _ _ _ => False
def asnQ (k : Fr → DS → World → Prop) : Ce
 | .normal => k
 | _ => fun _ _ _ => False
theorem run_endRound {l n : Nat} {ps : List Nat} {asn body : Code} {f0 : Fr} {st : LoopState} {pd : Option Code} (jump : Option Code) (h : Lp w l n ps asn body f0 st pd) :
  ∃ w', (Instr.endRound l jump).run P w = .ok (.bool jump.isNone) w' ∧ Keep [l] w w' ∧ w'.heap.size = w.heap.size ∧ Lp w' l n ps asn body f0 (if jump.isNone then .ready else .done) jump := by
 have hlt := h.lt
 obtain ⟨fn, tmps, blk, h1, h2, h3⟩ := h
 refine ⟨setO w l _, ?_, setO_keep l _ (fun _ _ _ h => by cases h), setO_size l _, fn, tmps, blk, setO_get _ hlt, h2, h3⟩
 simp only [Instr.endRound, Sem.run_bind, run_getLoop h1, Result.andThen_ok, run_setLoop _ h1, Sem.run_pure]
theorem run_beginRound {l n : Nat} {ps : List Nat} {asn body : Code} {f0 : Fr} {pd : Option Code} (h : Lp w l n ps asn body f0 .ready pd) :
  ∃ w', (Instr.beginRound l).run P w = .ok () w' ∧ Keep [l] w w' ∧ w'.heap.size = w.heap.size ∧ Lp w' l n ps asn body f0 .busy pd := by
 have hlt := h.lt
 obtain ⟨fn, tmps, blk, h1, h2, h3⟩ := h
 refine ⟨setO w l _, ?_, setO_keep l _ (fun _ _ _ h => by cases h), setO_size l _, fn, tmps, blk, setO_get _ hlt, h2, h3⟩
 simp only [Instr.beginRound, Sem.run_bind, run_getLoop h1, Result.andThen_ok, run_setLoop _ h1, Sem.run_pure]
theorem yld_of_wc {l n : Nat} {ps : List Nat} {asn body : Code} {f0 : Fr} {pd : Option Code} {args : List Value} {R : Value → World → Prop} {Y : List PanicEntry → World → Prop} (hl : Lp w l n ps asn body f0 .ready pd)
  (hp : args.length = ps.length) (hps : ps.all (fun t => Nat.blt t n) = true) (hok : (CT n true asn && CT n true body) = true)
  (h : WC P ⟨n, some l⟩ asn (asnQ fun f' ds' w' => Lp w' l n ps asn body f0 .ready none ∧ ∀ w2, Keep [l] w' w2 → w2.heap.size = w'.heap.size → (∃ st pd', Lp w2 l n ps asn body f0 st pd') → WC P ⟨n, some l⟩ body (rndQ l n ps asn body f0 R) f' ds' w2) (ovz (ps.zip args) f0) [] w) :
  YldP P (.func (.yield l) #[] #[]) args w R Y := by
 obtain ⟨fn, tmps, blk, h1, h2, h3⟩ := hl
 have hsz : ¬ args.toArray.size ≠ ps.toArray.size := by simp [hp]
 refine ⟨l, fn, ((ps.zip args).foldl (fun tmps (p : Nat × Value) => tmps.setIfInBounds p.1 p.2) tmps), asn, body, w, rfl, ?_, ?_⟩
 ·simp only [Instr.yield, Sem.run_bind, run_getLoop h1, Result.andThen_ok, if_neg hsz, Sem.run_pure]
  congr 2
  rw [← Array.foldl_toList]
  simp
 ·simp only [Bool.and_eq_true] at hok
  refine RoundIn.mono (R := endR R Y) (roundIn_of_wpIn (F := Fence.wide) trivial ?_) (fun e w'' he => by cases e <;> exact he)
  have hq : (ps.zip args).foldl (fun tmps (p : Nat × Value) => tmps.setIfInBounds p.1 p.2) tmps = (ps.zip args).foldl (fun tmps (p : Nat × Value) => tmps.setIfInBounds p.1 p.2) tmps := rfl
  have hF : Fence.wide.inRound l = rnd (some l) := rfl
  rw [hF]
  refine wpIn_mono (CA (P := P) (n := ⟨n, some l⟩) asn _ _ w ?_ hok.1 (by
   rw [toFr_sets, h3]
   ·exact h
   ·intro p hp'
    have := List.all_eq_true.1 hps p.1 (List.of_mem_zip hp').1
    rw [h2]; simpa [Nat.blt_eq] using this)) ?_
  ·simp only [size_sets]; exact h2
  ·intro e a w' hq
   obtain ⟨hn, hq⟩ := hq
   cases e with
   | normal =>
    obtain ⟨hr, hb⟩ := hq
    obtain ⟨w2, hb1, hb2, hb3, hb4⟩ := run_beginRound (P := P) hr
    refine ⟨w2, hb1, ?_⟩
    refine wpIn_mono (CA (P := P) (n := ⟨n, some l⟩) body _ a w2 hn hok.2 (hb w2 hb2 hb3 ⟨_, _, hb4⟩)) ?_
    intro e a' w3 hq
    obtain ⟨_, hq⟩ := hq
    cases e with
    | normal =>
     obtain ⟨⟨st, pd3, hl3⟩, hk⟩ := hq
     obtain ⟨w4, e1, e2, e3, e4⟩ := run_endRound (P := P) none hl3
     exact ⟨_, w4, e1, hk w4 e2 e3 e4⟩
    | ret =>
     obtain ⟨⟨st, pd3, hl3⟩, hk⟩ := hq
     obtain ⟨w4, e1, e2, e3, e4⟩ := run_endRound (P := P) (some .ret) hl3
     exact ⟨_, w4, e1, hk w4 e2 e3 e4⟩
    | exit i =>
     obtain ⟨⟨st, pd3, hl3⟩, hk⟩ := hq
     obtain ⟨w4, e1, e2, e3, e4⟩ := run_endRound (P := P) (some (.exit i)) hl3
     exact ⟨_, w4, e1, hk w4 e2 e3 e4⟩
    | goto _ => exact hq.elim
    | panic _ => exact hq.elim
    | outgrown => exact hq.elim
   | _ => exact hq.elim
def behind (Q : Ce) (f : Fr) (ds : DS) (w : World) : Option Code → Prop
 | none => Q .normal f ds w
 | some .ret => Q .ret f ds w
 | some (.exit i) => Q (.exit i) f ds w
 | _ => False
theorem run_endLoop {l n : Nat} {ps : List Nat} {asn body : Code} {f0 : Fr} {st : LoopState} {pd : Option Code} (hst : (st == .busy) = false) (h : Lp w l n ps asn body f0 st pd) :
  ∃ w', (Instr.endLoop l).run P w = .ok pd w' ∧ Keep [l] w w' ∧ w'.heap.size = w.heap.size := by
 obtain ⟨fn, tmps, blk, h1, h2, h3⟩ := h
 refine ⟨setO w l (.loop ⟨.exhausted, pd, fn, tmps, ps.toArray, asn, body, blk⟩), ?_, setO_keep l _ (fun _ _ _ h => by cases h), setO_size l _⟩
 simp only [Instr.endLoop, Sem.run_bind, run_getLoop h1, Result.andThen_ok, hst, Bool.false_eq_true, if_false, run_setLoop _ h1, Sem.run_pure]
theorem C_rangeFunc {n : Nat} {Q : Ce} {g : Operand} {ps : List Nat} {asn body : Code} {gf : FuncId} {v1 v2 : List Value} [hg : AT P gf] (hv : ev f g = .func (.func gf) v1.toArray v2.toArray)
  (h : ∀ w1, Ext w w1 → w1.heap.size = w.heap.size + 2 → w1.heap[w.heap.size]? = some (.deferred (some [])) → Lp w1 (w.heap.size + 1) n ps asn body f .ready none →
   FnP P gf (v1 ++ [.func (.yield (w.heap.size + 1)) #[] #[]] ++ v2) w1
    (fun _ w3 => ∃ st pd, Lp w3 (w.heap.size + 1) n ps asn body f st pd ∧ (st == .busy) = false ∧
     ∀ w4, Keep [w.heap.size + 1] w3 w4 → w4.heap.size = w3.heap.size → behind Q f ({ target := .collected w.heap.size, args := #[] } :: ds) w4 pd)
    (fun ch w3 => Q (.panic ch) f ({ target := .collected w.heap.size, args := #[] } :: ds) w3)) :
  WC P ⟨n, none⟩ (.rangeFunc g ps.toArray asn body) Q f ds w := by
 rintro a hn rfl rfl
 obtain ⟨fn, g1, g2, g3⟩ := hg.out
 refine wpIn_rangeFunc fun fn0 _ => ?_
 have he := ev_toFr a
 let w1 : World := (w.alloc (.deferred (some []))).alloc (.loop ⟨.ready, none, fn0, a.tmps, ps.toArray, asn, body, w.heap.size⟩)
 have k1 : Ext w w1 := ⟨rfl, rfl, rfl, by simp [w1]; omega, fun k hk _ => by
  have := heap_alloc_old w (.deferred (some [])) hk
  rw [← this]
  exact heap_alloc_old _ _ (by simp; omega), fun _ b hb => mark_new (w := w.alloc (.deferred (some []))) (by simp [w1]) (fun k hk => heap_alloc_old _ _ hk) (fun c t fr e => by rw [heap_alloc_new] at e; cases e) b fun _ =>
   mark_new (w := w) (by simp) (fun k hk => heap_alloc_old _ _ hk) (fun c t fr e => by rw [heap_alloc_new] at e; cases e) b hb⟩
 have s1 : w1.heap.size = w.heap.size + 2 := by simp [w1]
 have d1 : w1.heap[w.heap.size]? = some (.deferred (some [])) := by
  have := heap_alloc_new w (.deferred (some []))
  rw [← this]
  exact heap_alloc_old _ _ (by simp)
 have l1 : w1.heap[w.heap.size + 1]? = some (.loop ⟨.ready, none, fn0, a.tmps, ps.toArray, asn, body, w.heap.size⟩) := by
  have := heap_alloc_new (w.alloc (.deferred (some []))) (.loop ⟨.ready, none, fn0, a.tmps, ps.toArray, asn, body, w.heap.size⟩)
  simpa [w1] using this
 refine ⟨w.heap.size + 1, [{ target := .collected w.heap.size, args := #[] }], w1, { target := .fn (.func gf) v2.toArray, args := v1.toArray ++ #[Value.func (.yield (w.heap.size + 1)) #[] #[]] }, w1, gf, (v1 ++ [Value.func (.yield (w.heap.size + 1)) #[] #[]] ++ v2).toArray, w1, ?_, ?_, fun _ _ => trivial, ?_, rnd_depth, ?_⟩
 ·have e1 : ∀ o (w : World), (newObj o).run P w = .ok w.heap.size (w.alloc o) := fun _ _ => rfl
  simp only [Instr.enterLoop, rnd, Sem.run_bind, e1, Sem.run_pure, Result.andThen_ok, w1]
  simp
 ·rw [he]
  have ec : ∀ v, ev (CC a) (.const v) = v := fun _ => rfl
  simp [resolve, hv, ec, Deferred.ofValue]
 ·simp only [invoke, callFunc, program]
  simp [Sem.run, g1, g2, g3]
 ·have hf := h w1 k1 s1 d1 ⟨fn0, a.tmps, _, l1, hn, rfl⟩
  have hc : CallsIn Fence.wide (0 - 1) P gf _ w1 _ := callsIn_wide.2 hf
  refine CallsIn.mono (F := rnd none) hc fun e w3 he => ?_
  cases e with
  | returned v =>
   obtain ⟨st, pd, h1, h2, h3⟩ := he
   obtain ⟨w4, e1, e2, e3⟩ := run_endLoop (P := P) h2 h1
   refine ⟨pd, w4, e1, ?_⟩
   have hb := h3 w4 e2 e3
   cases pd with
   | none => exact ⟨hn, hb⟩
   | some c =>
    cases c with
    | ret => exact wpIn_ret ⟨hn, hb⟩
    | exit i => exact wpIn_exit ⟨hn, hb⟩
    | _ => exact hb.elim
  | panicked ch => exact ⟨hn, he⟩
  | outgrown => exact he.elim
def rndA (l : Nat) (Rdy Bsy : World → Prop) (Don : Code → World → Prop) (R : Value → World → Prop) : Ce
 | .normal => fun _ _ w => Bsy w ∧ ∀ w', Keep [l] w w' → w'.heap.size = w.heap.size → Rdy w' → R (.bool true) w'
 | .ret => fun _ _ w => Bsy w ∧ ∀ w', Keep [l] w w' → w'.heap.size = w.heap.size → Don .ret w' → R (.bool false) w'
 | .exit i => fun _ _ w => Bsy w ∧ ∀ w', Keep [l] w w' → w'.heap.size = w.heap.size → Don (.exit i) w' → R (.bool false) w'
 | _ => fun _ _ _ => False
theorem Q_asn {k : Fr → DS → World → Prop} (h : k f ds w) : asnQ k .normal f ds w := h
theorem Q_rnd {l : Nat} {Rdy Bsy : World → Prop} {Don : Code → World → Prop} {R : Value → World → Prop} (hb : Bsy w) (h : ∀ w', Keep [l] w w' → w'.heap.size = w.heap.size → Rdy w' → R (.bool true) w') : rndA l Rdy Bsy Don R .normal f ds w := ⟨hb, h⟩
structure Loops (P : Program) (n l : Nat) (ps : List Nat) (asn body : Code) (f : Fr) (Rdy Bsy : World → Prop) (Don : Code → World → Prop) : Prop where
 rdy : ∀ {X : List Nat} {w w' : World}, Rdy w → Keep X w w' → l ∉ X → Rdy w'
 bsy : ∀ {X : List Nat} {w w' : World}, Bsy w → Keep X w w' → l ∉ X → Bsy w'
 don : ∀ {X : List Nat} {w w' : World} {c : Code}, Don c w → Keep X w w' → l ∉ X → Don c w'
 lt : ∀ {w : World}, Rdy w → l < w.heap.size
 nocell : ∀ {w : World}, Rdy w → ∀ o, w.cell? ⟨l, o, none⟩ = none
 round : ∀ {args : List Value} {R : Value → World → Prop} {Y : List PanicEntry → World → Prop} {w : World}, Rdy w → args.length = ps.length →
  WC P ⟨n, some l⟩ asn (asnQ fun f' ds' w' => Rdy w' ∧ ∀ w2, Keep [l] w' w2 → w2.heap.size = w'.heap.size → Bsy w2 → WC P ⟨n, some l⟩ body (rndA l Rdy Bsy Don R) f' ds' w2) (ovz (ps.zip args) f) [] w →
  YldP P (.func (.yield l) #[] #[]) args w R Y
theorem C_range {n : Nat} {Q : Ce} {g : Operand} {ps : List Nat} {asn body : Code} {gf : FuncId} (v1 v2 : List Value) [hg : AT P gf] (hv : ev f g = .func (.func gf) v1.toArray v2.toArray)
  (hps : (ps.all (fun t => Nat.blt t n) && (CT n true asn && CT n true body)) = true)
  (h : ∀ (Rdy Bsy : World → Prop) (Don : Code → World → Prop) (w1 : World), Loops P n (w.heap.size + 1) ps asn body f Rdy Bsy Don → Ext w w1 → w1.heap.size = w.heap.size + 2 → w1.heap[w.heap.size]? = some (.deferred (some [])) → Rdy w1 →
   Fn P gf (v1 ++ [.func (.yield (w.heap.size + 1)) #[] #[]] ++ v2) w1
    (fun _ w3 => (Rdy w3 ∧ ∀ w4, Keep [w.heap.size + 1] w3 w4 → w4.heap.size = w3.heap.size → Q .normal f ({ target := .collected w.heap.size, args := #[] } :: ds) w4) ∨
     ∃ c, Don c w3 ∧ ∀ w4, Keep [w.heap.size + 1] w3 w4 → w4.heap.size = w3.heap.size → behind Q f ({ target := .collected w.heap.size, args := #[] } :: ds) w4 (some c))) :
  WC P ⟨n, none⟩ (.rangeFunc g ps.toArray asn body) Q f ds w := by
 simp only [Bool.and_eq_true] at hps
 refine C_rangeFunc hv fun w1 k1 s1 d1 l1 => ?_
 refine FnP.mono (h (fun w' => Lp w' (w.heap.size + 1) n ps asn body f .ready none) (fun w' => ∃ st pd, Lp w' (w.heap.size + 1) n ps asn body f st pd) (fun c w' => Lp w' (w.heap.size + 1) n ps asn body f .done (some c)) w1
  ⟨fun a b c => a.keep b c, fun ⟨st, pd, a⟩ b c => ⟨st, pd, a.keep b c⟩, fun a b c => a.keep b c, fun a => a.lt, (fun a o => by obtain ⟨_, _, _, e, _⟩ := a; simp [World.cell?, e]), fun {args R Y w'} hr hl hw => ?_⟩ k1 s1 d1 l1) ?_ (fun _ _ hh => hh.elim)
 ·have e : rndA (w.heap.size + 1) (fun w' => Lp w' (w.heap.size + 1) n ps asn body f .ready none) (fun w' => ∃ st pd, Lp w' (w.heap.size + 1) n ps asn body f st pd) (fun c w' => Lp w' (w.heap.size + 1) n ps asn body f .done (some c)) R = rndQ (w.heap.size + 1) n ps asn body f R := by
   funext e; cases e <;> rfl
  rw [e] at hw
  refine yld_of_wc hr hl hps.1 (by rw [Bool.and_eq_true]; exact hps.2) ?_
  exact hw
 ·rintro v w3 (⟨a, b⟩ | ⟨c, a, b⟩)
  ·exact ⟨_, _, a, rfl, fun w4 x y => b w4 x y⟩
  ·exact ⟨_, _, a, rfl, fun w4 x y => b w4 x y⟩
theorem fn_of_wcD {g : FuncId} {fn : Func} {c : Code} {args : List Value} {R : Value → World → Prop} (hf : P.funcs[g]? = some fn) (hb : fn.body = some c) {n : Nat} (hn : fn.ntmps = n) (hl : args.length ≤ n) (hok : CT n false c = true)
  (h : WC P ⟨n, none⟩ c (DY P fn R fun _ _ => False) (argF args) [] w) : Fn P g args w R := fnD_of_wc hf hb hn hl hok h
theorem takeDeferred_ok {b : Nat} (h : w.heap[b]? = some (.deferred (some []))) : ∃ w', (Instr.takeDeferred b).run P w = .ok [] w' ∧ Keep [b] w w' ∧ w'.heap.size = w.heap.size := by
 refine ⟨setO w b (.deferred none), ?_, setO_keep b _ (fun _ _ _ h => by cases h), setO_size b _⟩
 simp [Instr.takeDeferred, getObj, setObj, Sem.run, h, setO]
section
variable {fn : Func} {R : Value → World → Prop} {Y : List PanicEntry → World → Prop} {t u v b : Nat}
theorem finD_ret1 (hr : fn.results.toList = [.tmp t]) (h : R (f t) w) : DY P fn R Y .ret f [] w := by
 simp only [DY, lv, hr]; exact h
theorem finD_mark {a : Array Value} (hb : w.heap[b]? = some (.deferred (some []))) (h : ∀ w', Keep [b] w w' → w'.heap.size = w.heap.size → DY P fn R Y .ret f ds w') : DY P fn R Y .ret f ({ target := .collected b, args := a } :: ds) w := by
 obtain ⟨w', h1, h2, h3⟩ := takeDeferred_ok (P := P) hb
 simp only [DY]
 refine ⟨by simp, .inl ⟨b, w', rfl, h1, h w' h2 h3⟩⟩
end
attribute [irreducible] asnQ rndA rndQ YldP
end Go.Proofs.YtfcgdbmoncnibaaGreatDoor
namespace Go.Proofs.YtfcgdbmoncnibaaGreatDoor
open Go.RowKit
variable {mk : Prop} [MK mk]
attribute [local semireducible] WC AW B6 BZ B8 Cw DY By
variable {P : Program} {all : Array Oper} {Z : Fr → DS → List PanicEntry → World → Prop} {K : Fr → DS → World → Prop} {rest : List Oper} {f : Fr} {ds : DS} {w : World}
 {d : Nat} {ty : TypeId} {pos : String} {af : Array Edge}
end Go.Proofs.YtfcgdbmoncnibaaGreatDoor
namespace Go.Proofs.YtfcgdbmoncnibaaGreatDoor
open Go.RowKit
variable {mk : Prop} [MK mk]
attribute [local semireducible] WC AW B6 BZ B8 Cw DY By
variable {P : Program} {all : Array Oper} {Z : Fr → DS → List PanicEntry → World → Prop} {K : Fr → DS → World → Prop} {rest : List Oper} {f : Fr} {ds : DS} {w : World}
 {d : Nat} {ty : TypeId} {pos : String} {af : Array Edge}
def sameSort (P : Program) (t : TypeId) : Value → Value → Prop
 | .int k _, .int k' _ => k = k' ∧ P.underlying t = some (.int k)
 | .string _, .string _ => P.underlying t = some .string
 | .bool _, .bool _ => P.underlying t = some .bool
 | _, _ => False
theorem run_equalIn_plain {t : TypeId} {a b : Value} (h : sameSort P t a b) (D : Nat) : ∃ r : Bool, (Op.equalIn (D + 1) t a b).run P w = .ok r w ∧ (r = true ↔ a = b) := by
 cases a <;> cases b <;> simp only [sameSort] at h
 case int.int k x k' y =>
  obtain ⟨rfl, h⟩ := h
  exact ⟨_, run_equalIn_int w D t k k _ _ h, by simp⟩
 case bool.bool x y => exact ⟨_, run_equalIn_bool' w D t _ _ h, by simp⟩
 case string.string x y =>
  refine ⟨x == y, by simp [Op.equalIn, run_underlying h], ?_⟩
  obtain ⟨⟨x⟩⟩ := x
  obtain ⟨⟨y⟩⟩ := y
  show ((⟨x⟩ : Array UInt8) == ⟨y⟩) = true ↔ _
  simp
theorem run_part_plain {t : TypeId} {cs : List Value} {o : Nat} {a b : Value} (h : sameSort P t a b) {v : Value} (hv : cs[o]? = some v) : (part t cs.toArray o).run P w = .ok v w := by
 have ha : (isAgg t).run P w = .ok false w := by
  cases a <;> cases b <;> simp only [sameSort] at h <;> first | exact h.elim | skip
  ·simp [isAgg, run_underlying h]
  ·simp [isAgg, run_underlying h.2]
  ·simp [isAgg, run_underlying h]
 simp only [part, Sem.run_bind, ha, Result.andThen_ok]
 simp [hv]
theorem run_eqFields_plain (D : Nat) {xs ys : List Value} : ∀ fs : List Field, (∀ f ∈ fs, f.name ≠ "_" ∧ ∃ a b, xs[f.offset]? = some a ∧ ys[f.offset]? = some b ∧ sameSort P f.type a b) →
  ∃ r : Bool, (Op.eqFields (D + 1) xs.toArray ys.toArray fs).run P w = .ok r w ∧ (r = true ↔ ∀ f ∈ fs, xs[f.offset]? = ys[f.offset]?)
 | [], _ => ⟨true, by simp [Op.eqFields], by simp⟩
 | g :: fs, h => by
  obtain ⟨hn, a, b, ha, hb, hs⟩ := h g (by simp)
  obtain ⟨r, hr, hiff⟩ := run_equalIn_plain (w := w) hs D
  obtain ⟨r', hr', hiff'⟩ := run_eqFields_plain D fs fun f hf => h f (by simp [hf])
  simp only [Op.eqFields, if_pos hn, Sem.run_bind, run_part_plain hs ha, run_part_plain hs hb, hr, Result.andThen_ok]
  cases r with
  | false => exact ⟨false, by simp, by simp [ha, hb]; intro e; exact absurd (hiff.2 e) (by simp)⟩
  | true =>
   refine ⟨r', by simpa using hr', ?_⟩
   rw [hiff']
   simp [ha, hb, hiff.1 rfl]
class FlT (P : Program) (T : TypeId) (fs : outParam (List (Nat × TypeId))) : Prop where
 out : P.underlying T = some (.struct (P.fieldsOf T)) ∧ P.stoodInHeld T = false ∧ P.eqGuardType P.depth T = false ∧ (P.fieldsOf T).toList.map (fun f => (f.offset, f.type)) = fs ∧ ((P.fieldsOf T).toList.all fun f => f.name ≠ "_") = true
theorem run_equal_flat {T : TypeId} {fs : List (Nat × TypeId)} {xs ys : List Value} [hT : FlT P T fs] (h : ∀ p ∈ fs, ∃ a b, xs[p.1]? = some a ∧ ys[p.1]? = some b ∧ sameSort P p.2 a b) :
  ∃ r : Bool, (Op.equal T (.agg xs.toArray) (.agg ys.toArray)).run P w = .ok r w ∧ (r = true ↔ ∀ p ∈ fs, xs[p.1]? = ys[p.1]?) := by
 obtain ⟨h1, h2, h3, rfl, h5⟩ := hT.out
 obtain ⟨r, hr, hiff⟩ := run_eqFields_plain (P := P) (w := w) (xs := xs) (ys := ys) 9998 (P.fieldsOf T).toList fun f hf =>
  ⟨by simpa using List.all_eq_true.1 h5 f hf, h (f.offset, f.type) (List.mem_map.2 ⟨f, hf, rfl⟩)⟩
 refine ⟨r, ?_, ?_⟩
 ·unfold Op.equal
  rw [show Op.maxDepth = 9998 + 1 + 1 from rfl, run_equalIn_agg w _ T _ _ h1 h2]
  exact hr
 ·rw [hiff]
  constructor
  ·intro hh p hp
   obtain ⟨f, hf, rfl⟩ := List.mem_map.1 hp
   exact hh f hf
  ·intro hh f hf
   exact hh (f.offset, f.type) (List.mem_map.2 ⟨f, hf, rfl⟩)
theorem W_flNeq {T yt : TypeId} {x y : Operand} {fs : List (Nat × TypeId)} {xs ys : List Value} [hT : FlT P T fs] (hx : ev f x = .agg xs.toArray) (hy : ev f y = .agg ys.toArray) (h : ∀ p ∈ fs, ∃ a b, xs[p.1]? = some a ∧ ys[p.1]? = some b ∧ sameSort P p.2 a b)
  (hk : ∀ r : Bool, (r = true ↔ ∀ p ∈ fs, xs[p.1]? = ys[p.1]?) → AW P all Z K rest (upd f d (.bool (!r))) ds w) : AW P all Z K (⟨some d, .binOp .neq T x y yt, ty, pos, af, none⟩ :: rest) f ds w := by
 obtain ⟨r, hr, hiff⟩ := run_equal_flat (P := P) (T := T) (w := w) h
 refine A5 rfl ?_ (hk r hiff)
 simp only [execOp, hx, hy, Sem.run_bind, run_eqGuard_agg w _ _ _ _ _ _ hT.out.2.2.1, Result.andThen_ok, binOp, hr]
 simp
theorem AX {T bt : TypeId} {a : Operand} {b n : Nat} {L : List Value} [hT : AggT P T n] (ha : ev f a = .pointer (some ⟨b, 0, none⟩)) (hb : Blk w b bt L) (hl : L.length = n)
  (h : AW P all Z K rest (upd f d (.agg L.toArray)) ds w) : AW P all Z K (⟨some d, .load T a, ty, pos, af, none⟩ :: rest) f ds w := Ac ha hl hb.cells h
class BoolT (P : Program) (T : TypeId) : Prop where
 out : P.underlying T = some .bool
theorem run_equal_bool {T : TypeId} [hT : BoolT P T] (a b : Bool) : (Op.equal T (.bool a) (.bool b)).run P w = .ok (a == b) w := by
 unfold Op.equal
 rw [show Op.maxDepth = 9999 + 1 from rfl, run_equalIn_bool' w 9999 T a b hT.out]
theorem W_bneq {T yt : TypeId} {x y : Operand} {a b : Bool} [hT : BoolT P T] (hx : ev f x = .bool a) (hy : ev f y = .bool b) (h : AW P all Z K rest (upd f d (.bool (a != b))) ds w) : AW P all Z K (⟨some d, .binOp .neq T x y yt, ty, pos, af, none⟩ :: rest) f ds w := by
 refine A5 rfl ?_ h
 simp [execOp, hx, hy, eqGuard, binOp, run_equal_bool, bne]
end Go.Proofs.YtfcgdbmoncnibaaGreatDoor
namespace Go.Proofs.YtfcgdbmoncnibaaGreatDoor
open Go.RowKit
variable {mk : Prop} [MK mk]
open Go.ChangeMaps (setBlock)
attribute [local semireducible] WC AW B6 BZ B8 Cw DY By
variable {P : Program} {all : Array Oper} {Z : Fr → DS → List PanicEntry → World → Prop} {K : Fr → DS → World → Prop} {rest : List Oper} {f : Fr} {ds : DS} {w : World}
 {d : Nat} {ty : TypeId} {pos : String} {af : Array Edge}
class SMapT (P : Program) (T : TypeId) (z : outParam Value) : Prop where
 out : ∃ kt et i, P.underlying T = some (.map kt et) ∧ P.underlying kt = some .string ∧ P.info? et = some i ∧ i.zero = some z
theorem smapT_of {T kt et : TypeId} {z : Value} (h1 : P.underlying T = some (.map kt et)) (h2 : P.underlying kt = some .string) (h3 : (P.info? et).map (·.zero) = some (some z)) : SMapT P T z := by
 obtain ⟨i, hi, hz⟩ := Option.map_eq_some_iff.1 h3
 exact ⟨kt, et, i, h1, h2, hi, hz⟩
def encS (p : List UInt8 × Value) : Value × Value := (AL p.1, p.2)
theorem strV_inj {a b : List UInt8} (h : AL a = AL b) : a = b := by simpa using h
def rdS (e : MapEntry) : Value × Value := (e.key, e.val)
def SMap (w : World) (r : Nat) (L : List (List UInt8 × Value)) : Prop :=
 ∃ es clock, w.heap[r]? = some (.map es clock) ∧ MapKept.Stamped es clock ∧ es.toList.map rdS = L.map encS
theorem SMap.lt {r : Nat} {L : List (List UInt8 × Value)} (h : SMap w r L) : r < w.heap.size := by
 obtain ⟨es, c, h1, _⟩ := h; exact (Array.getElem?_eq_some_iff.1 h1).1
theorem SMap.keep {X : List Nat} {w' : World} {r : Nat} {L : List (List UInt8 × Value)} (h : SMap w r L) (k : Keep X w w') (hr : r ∉ X) : SMap w' r L := by
 obtain ⟨es, c, h1, h2, h3⟩ := id h
 exact ⟨es, c, (k.block r h.lt hr).trans h1, h2, h3⟩
theorem keys_str {es : List MapEntry} {L : List (List UInt8 × Value)} (h : es.map rdS = L.map encS) : ∀ x ∈ es, MapKept.IsKey .string x.key := by
 intro x hx
 have : rdS x ∈ L.map encS := by rw [← h]; exact List.mem_map.2 ⟨x, hx, rfl⟩
 obtain ⟨p, _, e⟩ := List.mem_map.1 this
 have : x.key = AL p.1 := (congrArg Prod.fst e).symm
 rw [this]; trivial
theorem slookup_none {L : List (List UInt8 × Value)} {x : List UInt8} (h : ∀ p ∈ L, p.1 ≠ x) : L.lookup x = none := by
 induction L with
 | nil => rfl
 | cons q L ih =>
  obtain ⟨a, b⟩ := q
  have ha : x ≠ a := fun e => h (a, b) (by simp) e.symm
  rw [List.lookup_cons, beq_false_of_ne ha]
  exact ih fun p hp => h p (by simp [hp])
theorem slookup_at {L : List (List UInt8 × Value)} (hn : (L.map (·.1)).Nodup) {p : List UInt8 × Value} (hp : p ∈ L) : L.lookup p.1 = some p.2 := by
 induction L with
 | nil => cases hp
 | cons q L ih =>
  simp only [List.map_cons, List.nodup_cons] at hn
  obtain ⟨a, b⟩ := q
  rcases List.mem_cons.1 hp with rfl | hp
  ·simp [List.lookup]
  ·have : p.1 ≠ a := fun e => hn.1 (List.mem_map.2 ⟨p, hp, e⟩)
   rw [List.lookup_cons, beq_false_of_ne this]
   exact ih hn.2 hp
theorem nodup_str {r : Nat} {L : List (List UInt8 × Value)} (h : SMap w r L) : (L.map (·.1)).Nodup := by
 obtain ⟨es, c, _, ⟨_, _, h2⟩, h3⟩ := h
 have e : es.toList.map (·.key) = L.map (fun p => AL p.1) := by
  have := congrArg (List.map Prod.fst) h3
  simpa [rdS, encS, List.map_map, Function.comp_def] using this
 rw [e] at h2
 have h4 : ((L.map (·.1)).map (fun x => AL x)).Nodup := by rw [List.map_map]; exact h2
 exact List.Pairwise.of_map _ (fun a b hab e => hab (by rw [e])) h4
theorem find_str {kt : TypeId} {L : List (List UInt8 × Value)} (hk : P.underlying kt = some .string) {es : Array MapEntry} (hm : es.toList.map rdS = L.map encS) (hn : (L.map (·.1)).Nodup) (x : List UInt8) (w : World) :
  (L.lookup x = none ∧ (Instr.findKey kt (AL x) es.toList).run P w = .ok none w ∧ ∀ e ∈ es.toList, e.key ≠ AL x) ∨
  ∃ i v, L.lookup x = some v ∧ (Instr.findKey kt (AL x) es.toList).run P w = .ok (some (i, v)) w := by
 have hget : ∀ (i : Nat) (e : MapEntry), es.toList[i]? = some e → ∃ p, L[i]? = some p ∧ e.key = AL p.1 ∧ e.val = p.2 := by
  intro i e he
  have := congrArg (fun l => l[i]?) hm
  simp only [List.getElem?_map, he, Option.map_some] at this
  obtain ⟨p, hp, e2⟩ := Option.map_eq_some_iff.1 this.symm
  exact ⟨p, hp, (congrArg Prod.fst e2).symm, (congrArg Prod.snd e2).symm⟩
 rcases MapKept.findNow_spec (d := .string) (k := AL x) trivial es.toList 0 (keys_str hm) with ⟨h1, h2⟩ | ⟨j, e, h1, h2, h3⟩
 ·refine .inl ⟨slookup_none fun p hp hpx => ?_, MapKept.run_findKey hk h1, h2⟩
  obtain ⟨i, hi⟩ := List.getElem?_of_mem hp
  have := congrArg (fun l => l[i]?) hm
  simp only [List.getElem?_map, hi, Option.map_some] at this
  obtain ⟨e, he, e2⟩ := Option.map_eq_some_iff.1 this
  refine h2 e (List.mem_of_getElem? he) ?_
  rw [show e.key = AL p.1 from congrArg Prod.fst e2, hpx]
 ·obtain ⟨p, hp, e1, e2⟩ := hget j e h2
  rw [h3] at e1
  have hx := strV_inj e1
  refine .inr ⟨j, p.2, ?_, ?_⟩
  ·rw [hx]; exact slookup_at hn (List.mem_of_getElem? hp)
  ·have := MapKept.run_findKey (P := P) (w := w) hk h1
   rw [this, e2, Nat.zero_add]
theorem W_makeMapS {T : TypeId} (h : ∀ w', Ext w w' → w'.heap.size = w.heap.size + 1 → SMap w' w.heap.size [] → AW P all Z K rest (upd f d (.map (some w.heap.size))) ds w') :
  AW P all Z K (⟨some d, .makeMap T none, ty, pos, af, none⟩ :: rest) f ds w := by
 refine A5 (v := .map (some w.heap.size)) (w' := w.alloc (.map #[] 0)) rfl ?_ (h _ ⟨rfl, rfl, rfl, by simp, fun k hk _ => heap_alloc_old w _ hk, fun _ => mark_new (by simp) (fun k hk => heap_alloc_old w _ hk) (fun c t fr e => by rw [heap_alloc_new] at e; cases e)⟩ (by simp) ⟨#[], 0, heap_alloc_new w _, MapKept.stamped_empty 0, rfl⟩)
 have hr : (Instr.makeMap T none).run P w = .ok (.map (some w.heap.size)) (w.alloc (.map #[] 0)) := rfl
 simp [execOp, hr]
theorem W_lookup2S {T : TypeId} {m k : Operand} {r : Nat} {x : List UInt8} {z : Value} {L : List (List UInt8 × Value)} [hT : SMapT P T z] (hm : ev f m = .map (some r)) (hk : ev f k = AL x) (hL : SMap w r L)
  (h : AW P all Z K rest (upd f d (.tuple #[(L.lookup x).getD z, .bool (L.lookup x).isSome])) ds w) : AW P all Z K (⟨some d, .lookup T m k true, ty, pos, af, none⟩ :: rest) f ds w := by
 obtain ⟨kt, et, i, h1, h2, h3, h4⟩ := hT.out
 have hn := nodup_str hL
 obtain ⟨es, clock, hb, hs, hmm⟩ := hL
 refine A5 rfl ?_ h
 have hck := MapKept.run_checkKey (P := P) (w := w) (k := AL x) h2 trivial es.isEmpty 9999
 have hz : (zeroValue et).run P w = .ok z w := by simp [zeroValue, typeInfo, h3, h4]
 rcases find_str h2 hmm hn x w with ⟨e1, e2, _⟩ | ⟨j, v, e1, e2⟩
 ·simp [execOp, hm, hk, Instr.lookup, run_underlying h1, MapKept.run_getObj_map hb, hck, e2, hz, e1]
 ·simp [execOp, hm, hk, Instr.lookup, run_underlying h1, MapKept.run_getObj_map hb, hck, e2, e1]
theorem setBlkS_keep {w : World} {r : Nat} {o' : Obj} (ho : ∀ c t fr, o' ≠ .cells c t fr) : Keep [r] w { w with heap := w.heap.setIfInBounds r o' } :=
 ⟨rfl, rfl, rfl, by simp, fun k _ hk => by simp [Ne.symm (show k ≠ r by simpa using hk)], fun _ => mark_obj ho⟩
theorem CO {T : TypeId} {m k v : Operand} {r : Nat} {x : List UInt8} {y z : Value} {L : List (List UInt8 × Value)} [hT : SMapT P T z] (hm : ev f m = .map (some r)) (hk : ev f k = AL x) (hv : ev f v = y) (hL : SMap w r L) (hx : L.lookup x = none)
  (h : ∀ w', Keep [r] w w' → w'.heap.size = w.heap.size → SMap w' r (L ++ [(x, y)]) → AW P all Z K rest f ds w') : AW P all Z K (⟨none, .insert T m k v, ty, pos, af, none⟩ :: rest) f ds w := by
 obtain ⟨kt, et, i, h1, h2, h3, h4⟩ := hT.out
 have hn := nodup_str hL
 obtain ⟨es, clock, hb, hs, hmm⟩ := hL
 have hck := MapKept.run_checkKey (P := P) (w := w) (k := AL x) h2 trivial false 9999
 rcases find_str h2 hmm hn x w with ⟨e1, e2, e3⟩ | ⟨j, v0, e1, e2⟩
 ·refine W_skp (w' := { w with heap := w.heap.setIfInBounds r (.map (es.push { key := AL x, val := y, born := clock }) (clock + 1)) }) rfl ?_ (h _ (setBlkS_keep fun _ _ _ h => by cases h) (by simp) ⟨_, _, (MapKept.heap_set hb).1, MapKept.stamped_push hs e3, ?_⟩)
  ·simp [execOp, hm, hk, hv, Instr.mapUpdate, run_underlying h1, MapKept.run_getObj_map hb, hck, e2, MapKept.run_setObj_map _ hb]
  ·rw [Array.toList_push, List.map_append, hmm]
   simp [rdS, encS]
 ·rw [e1] at hx; cases hx
end Go.Proofs.YtfcgdbmoncnibaaGreatDoor
namespace Go.Proofs.YtfcgdbmoncnibaaGreatDoor
variable {mk : Prop} [MK mk]
variable {P : Program} {T : TypeId}
theorem Ba {n : Nat} (h : (P.info? T).map (·.size) = some n) : CR P T n := by
 obtain ⟨i, hi, hs⟩ := Option.map_eq_some_iff.1 h
 exact ⟨i, hi, hs⟩
theorem Cy {n : Nat} {d : TypeDesc} (hu : P.underlying T = some d) (hd : aggD d = true) (h : (P.info? T).map (·.size) = some n) : AggT P T n := by
 obtain ⟨i, hi, hs⟩ := Option.map_eq_some_iff.1 h
 exact ⟨⟨d, hu, hd⟩, i, hi, hs⟩
theorem Bn {z : Value} {L : List Value} (h : (P.info? T).map (·.zero) = some (some z)) (hz : z.cells = L.toArray) : Co P T L := by
 obtain ⟨i, hi, hs⟩ := Option.map_eq_some_iff.1 h
 exact ⟨i, z, hi, hs, hz⟩
theorem slT_of {e size bytes : Nat} {z : Value} (hu : P.underlying T = some (.slice e)) (h : (P.info? e).map (fun i => (i.zero, i.size, i.bytes)) = some (some z, size, bytes)) : SlT P T e size bytes z := by
 obtain ⟨i, hi, hzz⟩ := Option.map_eq_some_iff.1 h
 simp only [Prod.mk.injEq] at hzz
 exact ⟨hu, i, hi, hzz.1, hzz.2.1, hzz.2.2⟩
theorem arrT_of {len e size : Nat} (hu : P.underlying T = some (.array len e)) (h : (P.info? e).map (·.size) = some size) : ArrT P T len e size := by
 obtain ⟨i, hi, hs⟩ := Option.map_eq_some_iff.1 h
 exact ⟨hu, i, hi, hs⟩
theorem Ai {i off : Nat} {ft : TypeId} {fs : Array Field} {fld : Field} {s : Nat} (hu : P.underlying T = some (.struct fs)) (hf : fs[i]? = some fld) (ho : fld.offset = off) (ht : fld.type = ft) (h : (P.info? ft).map (·.size) = some (s + 1)) : A2 P T i off ft := by
 obtain ⟨j, hj, hs⟩ := Option.map_eq_some_iff.1 h
 exact ⟨fs, fld, hu, hf, ho, ht, j, hj, by omega⟩
theorem AM {g : FuncId} {fn : Func} (h1 : P.funcs[g]? = some fn) (h2 : (fn.name == "runtime.NumGoroutine") = false) (h3 : fn.body.isNone = false) : AT P g := by
 refine ⟨fn, h1, fun e => ?_, fun e => ?_⟩
 ·rw [e] at h2; simp at h2
 ·rw [e] at h3; simp at h3
theorem places_run : ∀ (fs : List Field) (places : List (Nat × Nat)), fs.map (fun f => (f.offset, (P.info? f.type).map (·.size))) = places.map (fun p => (p.1, some p.2)) →
  ∀ w, (fs.mapM (m := Sem) fun f => do pure (f.offset, ← sizeOf f.type)).run P w = .ok places w
 | [], [], _, w => by simp
 | [], _ :: _, h, _ => by simp at h
 | _ :: _, [], h, _ => by simp at h
 | f :: fs, p :: places, h, w => by
  simp only [List.map_cons, List.cons.injEq, Prod.mk.injEq] at h
  obtain ⟨⟨h1, h2⟩, h3⟩ := h
  obtain ⟨i, hi, hs⟩ := Option.map_eq_some_iff.1 h2
  have ih := places_run fs places h3 w
  have hsz : (sizeOf f.type).run P w = .ok p.2 w := by simp [sizeOf, typeInfo, hi, hs]
  simp only [List.mapM_cons, Sem.run_bind, hsz, Sem.run_pure, Result.andThen_ok]
  rw [ih]
  simp [h1]
theorem C5 {fs : Array Field} {z : Value} {places : List (Nat × Nat)} {zero : List Value} (hu : P.underlying T = some (.struct fs)) (h : (P.info? T).map (·.zero) = some (some z)) (hz : z.cells = zero.toArray)
  (hp : fs.toList.map (fun f => (f.offset, (P.info? f.type).map (·.size))) = places.map (fun p => (p.1, some p.2))) : StT P T places zero := by
 obtain ⟨i, hi, hs⟩ := Option.map_eq_some_iff.1 h
 refine ⟨fs, i, z, hu, hi, hs, hz, fun w => ?_⟩
 have := places_run fs.toList places hp w
 rw [Array.mapM_eq_mapM_toList]
 have hm : ∀ (x : Sem (List (Nat × Nat))), (Functor.map List.toArray x : Sem (Array (Nat × Nat))) = x >>= fun l => pure l.toArray := fun _ => rfl
 rw [hm, Sem.run_bind, this]
 simp
end Go.Proofs.YtfcgdbmoncnibaaGreatDoor
namespace Go.Proofs.YtfcgdbmoncnibaaGreatDoor
open Go.RowKit
variable {mk : Prop} [MK mk]
attribute [local semireducible] WC AW B6 BZ B8 Cw DY By
section
variable {P : Program} {all : Array Oper} {Z : Fr → DS → List PanicEntry → World → Prop} {K : Fr → DS → World → Prop} {rest : List Oper} {f : Fr} {ds : DS} {w : World}
 {d : Nat} {ty : TypeId} {pos : String} {af : Array Edge}
theorem AH {x : Operand} {a : Addr} (hx : ev f x = .pointer (some a)) (h : AW P all Z K rest (upd f d (.pointer (some a))) ds w) :
  AW P all Z K (⟨some d, .nilCheck x, ty, pos, af, none⟩ :: rest) f ds w :=
 A5 rfl (by simp [execOp, hx]) h
theorem BB {xt : TypeId} {x i : Operand} {k : IntKind} {s : List UInt8} {j : Nat} {c : UInt8} [hT : StrT P xt] (hx : ev f x = AL s) (hi : ev f i = .int k (j : Int)) (hc : s[j]? = some c) (h : AW P all Z K rest (upd f d (enc8 c)) ds w) :
  AW P all Z K (⟨some d, .index xt x i, ty, pos, af, none⟩ :: rest) f ds w :=
 W_sindex hx hi (by omega) (by simpa using hc) h
theorem bytes_extract (s : List UInt8) (l h : Nat) : (⟨s.toArray⟩ : ByteArray).extract l h = ⟨((s.take h).drop l).toArray⟩ := by
 apply ByteArray.ext
 simp [ByteArray.data_extract, List.drop_take]
theorem W_sslice_lh {xt : TypeId} {x lo hi : Operand} {k k' : IntKind} {s : List UInt8} {l h' : Nat} [hT : StrT P xt] (hx : ev f x = AL s) (hl : ev f lo = .int k (l : Int)) (hh : ev f hi = .int k' (h' : Int)) (h1 : l ≤ h') (h2 : h' ≤ s.length)
  (h : AW P all Z K rest (upd f d (AL ((s.take h').drop l))) ds w) : AW P all Z K (⟨some d, .slice xt x (some lo) (some hi) none, ty, pos, af, none⟩ :: rest) f ds w := by
 refine A5 (v := AL ((s.take h').drop l)) rfl ?_ h
 have e : (⟨s.toArray⟩ : ByteArray).size = s.length := by simp [ByteArray.size]
 have c2 : (0 : Int) ≤ (l : Int) ∧ (l : Int) ≤ (h' : Int) := by omega
 have c1 : (0 : Int) ≤ (h' : Int) ∧ (h' : Int) ≤ ((s.length : Nat) : Int) := by omega
 simp only [execOp, hx, hl, hh, Option.map_some, Option.map_none, Instr.sliceAt, Sem.run_bind, run_underlying hT.out, Result.andThen_ok, Instr.slice, Instr.sliceBounds, Instr.sliceBound, asIntOf, Sem.run_pure, e]
 simp [c1, c2, bytes_extract, h1, h2]
theorem W_sslice_l {xt : TypeId} {x lo : Operand} {k : IntKind} {s : List UInt8} {l : Nat} [hT : StrT P xt] (hx : ev f x = AL s) (hl : ev f lo = .int k (l : Int)) (h1 : l ≤ s.length)
  (h : AW P all Z K rest (upd f d (AL (s.drop l))) ds w) : AW P all Z K (⟨some d, .slice xt x (some lo) none none, ty, pos, af, none⟩ :: rest) f ds w := by
 refine A5 (v := AL (s.drop l)) rfl ?_ h
 have e : (⟨s.toArray⟩ : ByteArray).size = s.length := by simp [ByteArray.size]
 simp only [execOp, hx, hl, Option.map_some, Option.map_none, Instr.sliceAt, Sem.run_bind, run_underlying hT.out, Result.andThen_ok, Instr.slice, Instr.sliceBounds, Instr.sliceBound, asIntOf, Sem.run_pure, e]
 simp [bytes_extract, h1]
theorem Cg {xt : TypeId} {x hi : Operand} {k : IntKind} {s : List UInt8} {l : Nat} [hT : StrT P xt] (hx : ev f x = AL s) (hl : ev f hi = .int k (l : Int)) (h1 : l ≤ s.length)
  (h : AW P all Z K rest (upd f d (AL (s.take l))) ds w) : AW P all Z K (⟨some d, .slice xt x none (some hi) none, ty, pos, af, none⟩ :: rest) f ds w := by
 refine A5 (v := AL (s.take l)) rfl ?_ h
 have e : (⟨s.toArray⟩ : ByteArray).size = s.length := by simp [ByteArray.size]
 simp only [execOp, hx, hl, Option.map_some, Option.map_none, Instr.sliceAt, Sem.run_bind, run_underlying hT.out, Result.andThen_ok, Instr.slice, Instr.sliceBounds, Instr.sliceBound, asIntOf, Sem.run_pure, e]
 simp [bytes_extract, h1]
theorem W_vidx1 {T len e : Nat} {x i : Operand} {k : IntKind} {L : List Value} {j : Nat} {v : Value} [hT : ArrT P T len e 1] [he : OneT P e] (hx : ev f x = .agg L.toArray) (hi : ev f i = .int k (j : Int)) (hj : j < len) (hv : L[j]? = some v)
  (h : AW P all Z K rest (upd f d v) ds w) : AW P all Z K (⟨some d, .index T x i, ty, pos, af, none⟩ :: rest) f ds w := by
 refine A5 rfl ?_ h
 obtain ⟨q, hq, hs⟩ := hT.out
 obtain ⟨dd, h1, h2⟩ := he.out
 have ha : (isAgg e).run P w = .ok false w := by
  simp only [isAgg, Sem.run_bind, run_underlying h1, Result.andThen_ok]
  cases dd <;> simp_all [aggD]
 have hp : (part e L.toArray j).run P w = .ok v w := by
  simp only [part, Sem.run_bind, ha, Result.andThen_ok]
  simp [hv]
 simp only [execOp, hx, hi, Instr.index, asIntOf, Sem.run_bind, Sem.run_pure, Result.andThen_ok, run_underlying hT.und]
 have c : (0 : Int) ≤ (j : Int) ∧ (j : Int) < (len : Int) := by omega
 simp [hj, sizeOf, typeInfo, hq, hs, hp]
theorem W_vidx {T len e size : Nat} {x i : Operand} {k : IntKind} {L cs : List Value} {j : Nat} [hT : ArrT P T len e size] [he : AggT P e size] (hx : ev f x = .agg L.toArray) (hi : ev f i = .int k (j : Int)) (hj : j < len) (hv : (L.drop (j * size)).take size = cs)
  (h : AW P all Z K rest (upd f d (.agg cs.toArray)) ds w) : AW P all Z K (⟨some d, .index T x i, ty, pos, af, none⟩ :: rest) f ds w := by
 refine A5 rfl ?_ h
 obtain ⟨q, hq, hs⟩ := hT.out
 obtain ⟨⟨dd, h1, h2⟩, q', hq', hs'⟩ := he.out
 have ha : (isAgg e).run P w = .ok true w := by
  simp only [isAgg, Sem.run_bind, run_underlying h1, Result.andThen_ok]
  cases dd <;> simp_all [aggD]
 have hp : (part e L.toArray (j * size)).run P w = .ok (.agg cs.toArray) w := by
  simp only [part, Sem.run_bind, ha, Result.andThen_ok, sizeOf, typeInfo]
  simp [hq, hs, ← hv]
 simp only [execOp, hx, hi, Instr.index, asIntOf, Sem.run_bind, Sem.run_pure, Result.andThen_ok, run_underlying hT.und]
 simp [hj, sizeOf, typeInfo, hq, hs, hp]
class ConcT (P : Program) (T : TypeId) : Prop where
 out : ∃ d, P.underlying T = some d ∧ (match d with | .interface _ => false | _ => true) = true
theorem C8 {T : TypeId} {x : Operand} [hT : ConcT P T] (h : AW P all Z K rest (upd f d (.iface T (ev f x))) ds w) : AW P all Z K (⟨some d, .makeInterface T x, ty, pos, af, none⟩ :: rest) f ds w := by
 obtain ⟨dd, h1, h2⟩ := hT.out
 refine A5 rfl ?_ h
 simp only [execOp, Instr.makeInterface, Sem.run_bind, run_underlying h1, Result.andThen_ok]
 cases dd <;> simp_all
theorem DC {x : Operand} {T : TypeId} {v : Value} {dst : Option Nat} (hx : ev f x = .iface T v) (h : Z f ds [{ v := .iface T v, recovered := false }] w) : AW P all Z K (⟨dst, .panic x, ty, pos, af, none⟩ :: rest) f ds w := by
 unfold AW
 have hr : (execOp (ev f) ⟨dst, .panic x, ty, pos, af, none⟩).run P w = .halt (.panic (.iface T v)) w := by
  simp only [execOp, hx, Instr.panic]
  rfl
 simp only [A7, if_true, By, hr]
 exact h
end
section
variable {P : Program} {fn : Func} {R : Value → World → Prop} {Y : List PanicEntry → World → Prop} {f : Fr} {w : World} {ch : List PanicEntry}
theorem AY (h : Y ch w) : Cw P fn R Y (.panic ch) f [] w := ⟨rfl, h⟩
end
end Go.Proofs.YtfcgdbmoncnibaaGreatDoor
