/- Rules: deferred calls that recover, what an interface holds, results that lie in cells. Conditions: none. -/
import Derived.Test.YteonolnfgppagaaDoorOps5
import Derived.RecoverIn
namespace Go.Proofs.YteonolnfgppagaaDoor
open Go.RowKit
attribute [local semireducible] WC WOps thenQ blockQ scopeQ finQ finD stepP

section
variable {P : Program} {all : Array Oper} {Z : Fr → DS → List PanicEntry → World → Prop} {K : Fr → DS → World → Prop} {rest : List Oper} {f : Fr} {ds : DS} {w : World}
  {d : Nat} {ty : TypeId} {pos : String} {af : Array Edge}

theorem W_defer {g : FuncId} {t : Nat} {xs : List Operand} {ats : Array TypeId} {vs v1 v2 : List Value} (hf : f t = .func (.func g) v1.toArray v2.toArray) (ha : evL f xs = vs)
    (h : WOps P all Z K rest f ({ target := .fn (.func g) v2.toArray, args := (v1 ++ vs).toArray } :: ds) w) : WOps P all Z K (⟨none, .defer ⟨.value (.tmp t), xs.toArray, ats⟩, ty, pos, af, none⟩ :: rest) f ds w := by
  have hr : (execOp (ev f) ⟨none, .defer ⟨.value (.tmp t), xs.toArray, ats⟩, ty, pos, af, none⟩).run P w = .ok (.defer { target := .fn (.func g) v2.toArray, args := (v1 ++ vs).toArray }) w := by
    rw [evL_map] at ha
    simp only [execOp, resolve, ev, hf, Deferred.ofValue, Sem.run_bind, Sem.run_pure, Result.andThen_ok]
    simp [← ha]
  unfold WOps
  simp only [wantedF, if_true, stepP, hr]
  exact h

theorem W_assert_yes {x : Operand} {xt T : TypeId} {v : Value} [hT : ConcT P T] (hx : ev f x = .iface T v) (h : WOps P all Z K rest (upd f d (.tuple #[v, .bool true])) ds w) :
    WOps P all Z K (⟨some d, .typeAssert x xt T true, ty, pos, af, none⟩ :: rest) f ds w := by
  obtain ⟨dd, h1, h2⟩ := hT.out
  refine W_val rfl ?_ h
  simp only [execOp, hx, Instr.typeAssert, Sem.run_bind, run_underlying h1, Result.andThen_ok]
  cases dd <;> simp_all
theorem W_assert_nil {x : Operand} {xt T : TypeId} {z : Value} [hT : ConcT P T] (hx : ev f x = .nilIface) (hz : (P.info? T).map (·.zero) = some (some z)) (h : WOps P all Z K rest (upd f d (.tuple #[z, .bool false])) ds w) :
    WOps P all Z K (⟨some d, .typeAssert x xt T true, ty, pos, af, none⟩ :: rest) f ds w := by
  obtain ⟨dd, h1, h2⟩ := hT.out
  obtain ⟨i, hi, hs⟩ := Option.map_eq_some_iff.1 hz
  refine W_val rfl ?_ h
  simp only [execOp, hx, Instr.typeAssert, Sem.run_bind, run_underlying h1, Result.andThen_ok]
  cases dd <;> simp_all [zeroValue, typeInfo]
end

/-! ### Operations that call nothing -/
def plainOp : Op → Bool
  | .move _ | .assign _ | .alloc _ | .store _ _ _ | .load _ _ | .extract _ _ | .typeAssert _ _ _ _ | .fieldAddr _ _ _ => true
  | _ => false
theorem run_v {P : Program} {w : World} (s : Sem Value) : (∃ v w', (do pure (Next.value (← s)) : Sem Next).run P w = .ok (.value v) w') ∨ ∃ x w', (do pure (Next.value (← s)) : Sem Next).run P w = .halt x w' := by
  simp only [Sem.run_bind]
  cases s.run P w with
  | ok v w' => exact .inl ⟨v, w', rfl⟩
  | halt x w' => exact .inr ⟨x, w', rfl⟩
theorem plain_cases {P : Program} {w : World} {ρ : Operand → Value} {o : Oper} (h : plainOp o.op = true) :
    (∃ v w', (execOp ρ o).run P w = .ok (.value v) w') ∨ (∃ w', (execOp ρ o).run P w = .ok .skip w') ∨ ∃ x w', (execOp ρ o).run P w = .halt x w' := by
  obtain ⟨dst, op, ty, pos, af, g⟩ := o
  cases op <;> simp only [plainOp] at h <;> try (cases h; done)
  case store t a x =>
    simp only [execOp, Sem.run_bind]
    cases (Instr.storeAt t (ρ a) (ρ x)).run P w with
    | ok v w' => exact .inr (.inl ⟨w', rfl⟩)
    | halt x w' => exact .inr (.inr ⟨x, w', rfl⟩)
  case move => exact .inl ⟨_, _, rfl⟩
  case assign => exact .inl ⟨_, _, rfl⟩
  all_goals
    simp only [execOp]
    rcases run_v (P := P) (w := w) _ with ⟨v, w', h⟩ | ⟨x, w', h⟩
    · exact .inl ⟨v, w', h⟩
    · exact .inr (.inr ⟨x, w', h⟩)

theorem S_of_WOps {P : Program} {ops : Array Oper} {F : Fence} {n N : Nat} {Q : Exit → Act → List Frame → World → Prop} {cs : List Frame} {K : Fr → DS → World → Prop} (hF : ∀ g, F.fn g)
    (hK : ∀ a' w', a'.tmps.size = N → K (toFr a') a'.defers w' → Q .normal a' cs w') : ∀ (l : List Nat) (os : List Oper) (a : Act) (w : World), l.map (fun i => ops[i]?) = os.map some → (os.all fun o => plainOp o.op && dOk N o.dst) = true →
      a.tmps.size = N → WOps P ops (fun _ _ _ _ => False) K os (toFr a) a.defers w → wpOpsSIn F n P ops Q l a cs w
  | [], [], a, w, _, _, hn, h => hK a w hn h
  | [], _ :: _, _, _, h, _, _, _ => by simp at h
  | _ :: _, [], _, _, h, _, _, _ => by simp at h
  | i :: l, o :: os, a, w, hl, hp, hn, h => by
    simp only [List.map_cons, List.cons.injEq] at hl
    simp only [List.all_cons, Bool.and_eq_true] at hp
    obtain ⟨⟨hpo, hdo⟩, hp⟩ := hp
    unfold wpOpsSIn
    simp only [hl.1]
    refine ⟨fun g _ => hF g, ?_⟩
    have put : ∀ v, toFr (a.put o.dst v) = putF (toFr a) o.dst v := fun v => toFr_putF v (by rw [hn]; exact hdo)
    have go : ∀ v w', WOps P ops (fun _ _ _ _ => False) K os (putF (toFr a) o.dst v) a.defers w' → wpOpsSIn F n P ops Q l (a.put o.dst v) cs w' := fun v w' h' =>
      S_of_WOps hF hK l os (a.put o.dst v) w' hl.2 hp (by rw [size_put]; exact hn) (by rw [put, defers_put]; exact h')
    unfold WOps at h
    rw [wanted_toFr]
    by_cases hw : wantedF ops (toFr a) o.guard = true
    · rw [if_pos hw] at h ⊢
      unfold stepP at h
      rw [ev_toFr]
      rcases plain_cases (P := P) (w := w) (ρ := ev (toFr a)) hpo with ⟨v, w', hr⟩ | ⟨w', hr⟩ | ⟨x, w', hr⟩
      · rw [hr] at h ⊢; exact go _ _ h
      · rw [hr] at h ⊢; exact go _ _ h
      · rw [hr] at h
        cases x <;> exact h.elim
    · rw [if_neg hw] at h ⊢
      exact go _ _ h

/-- a deferred call that first of all recovers -/
theorem callsD_rec {P : Program} {g : FuncId} {fn : Func} {id d N : Nat} {ats : Array TypeId} {ty : TypeId} {pos : String} {af : Array Edge} {os : List Oper} {y : Code} {args : List Value} {w : World} {u u1 : FrameMode} {v0 : Value} {G : Value → World → Prop}
    (hf : P.funcs[g]? = some fn) (hb : fn.body = some (.seq (.region id (⟨some d, .call ⟨.builtin .recover, #[], ats⟩, ty, pos, af, none⟩ :: os).toArray false) y)) (hn : fn.ntmps = N) (hl : args.length ≤ N) (hd : d < N)
    (hos : (os.all fun o => plainOp o.op && dOk N o.dst) = true) (hy : codeOk N false y = true)
    (hu : (u = .returning ∧ u1 = .returning ∧ v0 = .nilIface) ∨ ∃ p, u = .panicking [{ v := p, recovered := false }] ∧ u1 = .panicking [{ v := p, recovered := true }] ∧ v0 = p)
    (h : WOps P (⟨some d, .call ⟨.builtin .recover, #[], ats⟩, ty, pos, af, none⟩ :: os).toArray (fun _ _ _ _ => False) (WC P ⟨N, none⟩ y (finQ P fn G fun _ _ => False)) os (upd (argF args) d v0) [] w) :
    CallsDIn Fence.wide 0 P g args.toArray u w (fun e u' w' => match e with | .returned v => u' = u1 ∧ G v w' | _ => False) := by
  have hs : (args.toArray ++ Array.replicate (fn.ntmps - args.toArray.size) undef).size = N := by simp [hn]; omega
  refine callsDIn_of_wpSIn hf hb trivial fun c₀ cs hc => ?_
  refine wpSIn_seq (wpSIn_region ?_)
  have hrange : List.range (⟨some d, .call ⟨.builtin .recover, #[], ats⟩, ty, pos, af, none⟩ :: os : List Oper).toArray.size = 0 :: (List.range os.length).map (· + 1) := by
    rw [List.size_toArray, List.length_cons, List.range_succ_eq_map]
  rw [hrange]
  unfold wpOpsSIn
  simp only [List.getElem?_toArray, List.getElem?_cons_zero]
  refine ⟨fun _ _ => trivial, ?_⟩
  simp only [Region.wanted, if_true]
  have hr : ∀ ρ : Operand → Value, (execOp ρ ⟨some d, .call ⟨.builtin .recover, #[], ats⟩, ty, pos, af, none⟩).run P w = .ok .recover w := fun ρ => by
    simp [execOp, resolve, invoke, builtin]
  rw [hr]
  have key : ∀ c₁ : Frame, c₁ = { c₀ with mode := u1 } → wpOpsSIn Fence.wide 0 P (⟨some d, .call ⟨.builtin .recover, #[], ats⟩, ty, pos, af, none⟩ :: os : List Oper).toArray
      (Exit.thenS (y.wpSIn Fence.wide 0 P (bodyPostS P fn c₀ cs fun e u' w' => match e with | .returned v => u' = u1 ∧ G v w' | _ => False)) (bodyPostS P fn c₀ cs fun e u' w' => match e with | .returned v => u' = u1 ∧ G v w' | _ => False))
      ((List.range os.length).map (· + 1)) (({ tmps := args.toArray ++ Array.replicate (fn.ntmps - args.toArray.size) undef, defers := [] } : Act).put (some d) v0) (c₁ :: cs) w := by
    rintro c₁ rfl
    refine S_of_WOps (N := N) (K := WC P ⟨N, none⟩ y (finQ P fn G fun _ _ => False)) (fun _ => trivial) ?_ _ os _ w ?_ hos (by rw [size_put]; exact hs) ?_
    · intro a' w' ha hwc
      have hp := wpIn_of_WC (P := P) (n := ⟨N, none⟩) y (finQ P fn G fun _ _ => False) a' w' ha hy hwc
      refine wpSIn_of_wpIn rfl (wpIn_mono hp ?_)
      rintro e a2 w2 ⟨_, hq⟩
      cases e with
      | normal => obtain ⟨h1, h2⟩ := hq; obtain ⟨l, h3, h4⟩ := run_results h2; exact ⟨h1, _, rfl, _, h4, rfl, h3⟩
      | ret => obtain ⟨h1, h2⟩ := hq; obtain ⟨l, h3, h4⟩ := run_results h2; exact ⟨h1, _, rfl, _, h4, rfl, h3⟩
      | panic ch => exact hq.2.elim
      | exit _ => exact hq.elim
      | goto _ => exact hq.elim
      | outgrown => exact hq.elim
    · refine List.ext_getElem? fun i => ?_
      rw [List.map_map, List.getElem?_map, List.getElem?_map]
      by_cases hi : i < os.length
      · rw [List.getElem?_range hi]; simp [hi]
      · rw [List.getElem?_eq_none (by simpa using hi), List.getElem?_eq_none (by simpa using hi)]; rfl
    · rw [defers_put, toFr_put v0 (by rw [hs]; exact hd), toFr_args]
      exact h
  rcases hu with ⟨rfl, rfl, rfl⟩ | ⟨p, rfl, rfl, rfl⟩
  · have hrd : recoverD (c₀ :: cs) = none := by simp [recoverD, hc]
    rw [hrd]
    exact key c₀ (by cases c₀; simp_all)
  · have hrd : recoverD (c₀ :: cs) = some (v0, { c₀ with mode := .panicking [{ v := v0, recovered := true }] } :: cs) := by simp [recoverD, hc]
    rw [hrd]
    exact key _ rfl

/-! ### Results in cells -/
section
variable {P : Program} {fn : Func} {R : Value → World → Prop} {Y : List PanicEntry → World → Prop} {f : Fr} {w : World} {ds : DS}
theorem run_loadVar_one {T b o : Nat} {v : Value} (hT : OneT P T) (hc : w.cell? ⟨b, o, none⟩ = some v) : (loadVar T ⟨b, o, none⟩).run P w = .ok v w := by
  obtain ⟨dd, h1, h2⟩ := hT.out
  have e : (isAgg T).run P w = .ok false w := by
    simp only [isAgg, Sem.run_bind, run_underlying h1, Result.andThen_ok]
    cases dd <;> simp_all [aggD]
  simp only [loadVar, Sem.run_bind, e, Result.andThen_ok]
  simp [hc]
theorem res_cell {T b o t : Nat} {v : Value} {l : List ResultVar} {k : List Value → Prop} [hT : OneT P T] (ha : f t = .pointer (some ⟨b, o, none⟩)) (hc : w.cell? ⟨b, o, none⟩ = some v) (h : resVals P l f w fun r => k (v :: r)) : resVals P (.cell t T :: l) f w k :=
  ⟨_, v, ha, run_loadVar_one hT hc, h⟩
theorem finD_ret_nil (h : resVals P fn.results.toList f w fun l => R (tupleOf l) w) : finD P fn R Y .ret f [] w := h
theorem finD_end_nil (h : resVals P fn.results.toList f w fun l => R (tupleOf l) w) : finD P fn R Y .normal f [] w := h
/-- left in good order, with one deferred call -/
theorem finD_ret_def {g : FuncId} {a c : List Value} [hg : PlainFn P g] {G : World → Prop} (hc : CallsDIn Fence.wide 0 P g (a ++ c).toArray .returning w (fun e u' w' => match e with | .returned _ => u' = .returning ∧ G w' | _ => False))
    (h : ∀ w', G w' → resVals P fn.results.toList f w' fun l => R (tupleOf l) w') : finD P fn R Y .ret f [{ target := .fn (.func g) c.toArray, args := a.toArray }] w := by
  obtain ⟨fn', h1, h2, h3⟩ := hg.out
  refine ⟨by simp, .inr ⟨_, _, g, (a ++ c).toArray, rfl, ?_, hc.mono ?_⟩⟩
  · simp only [invoke, callFunc, program]
    simp [Sem.run, h1, h2, h3]
  · intro e u' w' he
    cases e with
    | returned v => obtain ⟨rfl, hG⟩ := he; exact h w' hG
    | panicked _ => exact he.elim
    | outgrown => exact he.elim
/-- left by a panic, with one deferred call that recovers -/
theorem finD_pan_def {g : FuncId} {a c : List Value} {p : Value} [hg : PlainFn P g] {G : World → Prop} (hc : CallsDIn Fence.wide 0 P g (a ++ c).toArray (.panicking [{ v := p, recovered := false }]) w (fun e u' w' => match e with | .returned _ => u' = .panicking [{ v := p, recovered := true }] ∧ G w' | _ => False))
    (h : ∀ w', G w' → resVals P fn.results.toList f w' fun l => R (tupleOf l) w') : finD P fn R Y (.panic [{ v := p, recovered := false }]) f [{ target := .fn (.func g) c.toArray, args := a.toArray }] w := by
  obtain ⟨fn', h1, h2, h3⟩ := hg.out
  refine ⟨by simp, .inr ⟨_, _, g, (a ++ c).toArray, rfl, ?_, hc.mono ?_⟩⟩
  · simp only [invoke, callFunc, program]
    simp [Sem.run, h1, h2, h3]
  · intro e u' w' he
    cases e with
    | returned v => obtain ⟨rfl, hG⟩ := he; exact h w' hG
    | panicked _ => exact he.elim
    | outgrown => exact he.elim
end
end Go.Proofs.YteonolnfgppagaaDoor
