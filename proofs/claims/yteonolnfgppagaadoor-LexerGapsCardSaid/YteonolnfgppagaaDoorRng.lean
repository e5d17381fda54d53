/- Ranges over functions: the statement, a round, the call of yield, how a function with a mark is left. Conditions: none. -/
import Derived.Test.YteonolnfgppagaaDoorDraw
import Derived.RangeFuncIn
namespace Go.Proofs.YteonolnfgppagaaDoor
open Go.RowKit
attribute [local semireducible] WC WOps thenQ blockQ scopeQ finQ finD stepP

variable {P : Program} {all : Array Oper} {Z : Fr → DS → List PanicEntry → World → Prop} {K : Fr → DS → World → Prop} {rest : List Oper} {f : Fr} {ds : DS} {w : World}
  {d : Nat} {ty : TypeId} {pos : String} {af : Array Edge}

/-- the record of a range over a function -/
def Lp (w : World) (l n : Nat) (ps : List Nat) (asn body : Code) (f : Fr) (st : LoopState) (pend : Option Code) : Prop :=
  ∃ fn tmps blk, w.heap[l]? = some (.loop ⟨st, pend, fn, tmps, ps.toArray, asn, body, blk⟩) ∧ tmps.size = n ∧ toFr { tmps := tmps, defers := [] } = f

theorem Lp.lt {l n : Nat} {ps : List Nat} {asn body : Code} {st : LoopState} {pend : Option Code} (h : Lp w l n ps asn body f st pend) : l < w.heap.size := by
  obtain ⟨_, _, _, h, _⟩ := h
  exact (Array.getElem?_eq_some_iff.1 h).1
theorem Lp.keep {X : List Nat} {w' : World} {l n : Nat} {ps : List Nat} {asn body : Code} {st : LoopState} {pend : Option Code} (h : Lp w l n ps asn body f st pend) (k : Keep X w w') (hl : l ∉ X) : Lp w' l n ps asn body f st pend := by
  have hlt := h.lt
  obtain ⟨fn, tmps, blk, h1, h2⟩ := h
  exact ⟨fn, tmps, blk, (k.block l hlt hl).trans h1, h2⟩

theorem run_getLoop {l : Nat} {r : Loop} (h : w.heap[l]? = some (.loop r)) : (Instr.getLoop l).run P w = .ok r w := by
  simp [Instr.getLoop, getObj, Sem.run, h]
def setO (w : World) (l : Nat) (o : Obj) : World := { w with heap := w.heap.setIfInBounds l o }
theorem run_setLoop {l : Nat} {r : Loop} (o : Obj) (h : w.heap[l]? = some (.loop r)) : (setObj l o).run P w = .ok () (setO w l o) := by
  simp [setObj, Sem.run, h, setO]
theorem setO_keep (l : Nat) (o : Obj) : Keep [l] w (setO w l o) := ⟨rfl, rfl, rfl, by simp [setO], fun k _ hk => by simp only [setO]; rw [Array.getElem?_setIfInBounds_ne (by simpa [eq_comm] using hk)]⟩
theorem setO_size (l : Nat) (o : Obj) : (setO w l o).heap.size = w.heap.size := by simp [setO]
theorem setO_get {l : Nat} (o : Obj) (h : l < w.heap.size) : (setO w l o).heap[l]? = some o := by simp [setO, h]

/-- a call of a yield function -/
def YldP (P : Program) (yv : Value) (args : List Value) (w : World) (R : Value → World → Prop) (Z : List PanicEntry → World → Prop) : Prop :=
  ∃ y g tmps asn body w1, yv = .func (.yield y) #[] #[] ∧ (Instr.yield y args.toArray).run P w = .ok (.round y g tmps asn body) w1 ∧
    RoundIn Fence.wide 0 P y g tmps asn body w1 fun e w'' => match e with | .returned v => R v w'' | .panicked ch => Z ch w'' | .outgrown => False

theorem YldP.mono {yv : Value} {args : List Value} {R R' : Value → World → Prop} {Y Y' : List PanicEntry → World → Prop} (h : YldP P yv args w R Y) (hr : ∀ v w', R v w' → R' v w') (hz : ∀ ch w', Y ch w' → Y' ch w') : YldP P yv args w R' Y' := by
  obtain ⟨y, g, tmps, asn, body, w1, h1, h2, h3⟩ := h
  refine ⟨y, g, tmps, asn, body, w1, h1, h2, RoundIn.mono h3 fun e w' he => ?_⟩
  cases e with
  | returned v => exact hr v w' he
  | panicked ch => exact hz ch w' he
  | outgrown => exact he

theorem W_yieldP {t : Nat} {yv : Value} {xs : List Operand} {ats : Array TypeId} {vs : List Value} {R : Value → World → Prop} {Y : List PanicEntry → World → Prop}
    (hf : f t = yv) (ha : evL f xs = vs) (hc : YldP P yv vs w R Y) (h : ∀ v w', R v w' → WOps P all Z K rest (upd f d v) ds w') (hz : ∀ ch w', Y ch w' → Z f ds ch w') :
    WOps P all Z K (⟨some d, .call ⟨.value (.tmp t), xs.toArray, ats⟩, ty, pos, af, none⟩ :: rest) f ds w := by
  obtain ⟨y, g, tmps, asn, body, w1, rfl, h2, h3⟩ := hc
  have hr : (execOp (ev f) ⟨some d, .call ⟨.value (.tmp t), xs.toArray, ats⟩, ty, pos, af, none⟩).run P w = .ok (.round y g tmps asn body) w1 := by
    rw [evL_map] at ha
    simp only [execOp, resolve, ev, hf, Deferred.ofValue, Sem.run_bind, Sem.run_pure, Result.andThen_ok, invoke]
    simp [ha, h2]
  unfold WOps
  simp only [wantedF, if_true, stepP, hr]
  refine RoundIn.mono h3 fun e w' he => ?_
  cases e with
  | returned v => exact h v w' he
  | panicked ch => exact hz ch w' he
  | outgrown => exact he
theorem W_yield {t : Nat} {yv : Value} {xs : List Operand} {ats : Array TypeId} {vs : List Value} {R : Value → World → Prop}
    (hf : f t = yv) (ha : evL f xs = vs) (hc : YldP P yv vs w R fun _ _ => False) (h : ∀ v w', R v w' → WOps P all Z K rest (upd f d v) ds w') :
    WOps P all Z K (⟨some d, .call ⟨.value (.tmp t), xs.toArray, ats⟩, ty, pos, af, none⟩ :: rest) f ds w := W_yieldP hf ha hc h fun _ _ h => h.elim

/-! ### A round -/
def ovz : List (Nat × Value) → Fr → Fr
  | [], f => f
  | (t, v) :: l, f => ovz l (upd f t v)
theorem size_sets : ∀ (l : List (Nat × Value)) (tmps : Array Value), (l.foldl (fun tmps (p : Nat × Value) => tmps.setIfInBounds p.1 p.2) tmps).size = tmps.size
  | [], _ => rfl
  | _ :: l, tmps => by rw [List.foldl_cons, size_sets l]; simp
theorem toFr_sets : ∀ (l : List (Nat × Value)) (tmps : Array Value), (∀ p ∈ l, p.1 < tmps.size) →
    toFr { tmps := l.foldl (fun tmps (p : Nat × Value) => tmps.setIfInBounds p.1 p.2) tmps, defers := [] } = ovz l (toFr { tmps := tmps, defers := [] })
  | [], _, _ => rfl
  | (t, v) :: l, tmps, h => by
    rw [List.foldl_cons, toFr_sets l _ (by intro p hp; rw [Array.size_setIfInBounds]; exact h p (by simp [hp]))]
    simp only [ovz]
    congr 1
    exact toFr_put (a := { tmps := tmps, defers := [] }) (d := t) v (h (t, v) (by simp))

/-- how a round ends: what R asks of the value that yield hands back -/
def rndQ (l n : Nat) (ps : List Nat) (asn body : Code) (f0 : Fr) (R : Value → World → Prop) : Post
  | .normal => fun _ _ w => (∃ st pd, Lp w l n ps asn body f0 st pd) ∧ ∀ w', Keep [l] w w' → w'.heap.size = w.heap.size → Lp w' l n ps asn body f0 .ready none → R (.bool true) w'
  | .ret => fun _ _ w => (∃ st pd, Lp w l n ps asn body f0 st pd) ∧ ∀ w', Keep [l] w w' → w'.heap.size = w.heap.size → Lp w' l n ps asn body f0 .done (some .ret) → R (.bool false) w'
  | .exit i => fun _ _ w => (∃ st pd, Lp w l n ps asn body f0 st pd) ∧ ∀ w', Keep [l] w w' → w'.heap.size = w.heap.size → Lp w' l n ps asn body f0 .done (some (.exit i)) → R (.bool false) w'
  | _ => fun _ _ _ => False
/-- the assignments of a round end normally only -/
def asnQ (k : Fr → DS → World → Prop) : Post
  | .normal => k
  | _ => fun _ _ _ => False

theorem run_endRound {l n : Nat} {ps : List Nat} {asn body : Code} {f0 : Fr} {st : LoopState} {pd : Option Code} (jump : Option Code) (h : Lp w l n ps asn body f0 st pd) :
    ∃ w', (Instr.endRound l jump).run P w = .ok (.bool jump.isNone) w' ∧ Keep [l] w w' ∧ w'.heap.size = w.heap.size ∧ Lp w' l n ps asn body f0 (if jump.isNone then .ready else .done) jump := by
  have hlt := h.lt
  obtain ⟨fn, tmps, blk, h1, h2, h3⟩ := h
  refine ⟨setO w l _, ?_, setO_keep l _, setO_size l _, fn, tmps, blk, setO_get _ hlt, h2, h3⟩
  simp only [Instr.endRound, Sem.run_bind, run_getLoop h1, Result.andThen_ok, run_setLoop _ h1, Sem.run_pure]

theorem run_beginRound {l n : Nat} {ps : List Nat} {asn body : Code} {f0 : Fr} {pd : Option Code} (h : Lp w l n ps asn body f0 .ready pd) :
    ∃ w', (Instr.beginRound l).run P w = .ok () w' ∧ Keep [l] w w' ∧ w'.heap.size = w.heap.size ∧ Lp w' l n ps asn body f0 .busy pd := by
  have hlt := h.lt
  obtain ⟨fn, tmps, blk, h1, h2, h3⟩ := h
  refine ⟨setO w l _, ?_, setO_keep l _, setO_size l _, fn, tmps, blk, setO_get _ hlt, h2, h3⟩
  simp only [Instr.beginRound, Sem.run_bind, run_getLoop h1, Result.andThen_ok, run_setLoop _ h1, Sem.run_pure]

/-- one round: the assignments, then the body, in the round's own frame -/
theorem yld_of_wc {l n : Nat} {ps : List Nat} {asn body : Code} {f0 : Fr} {pd : Option Code} {args : List Value} {R : Value → World → Prop} {Y : List PanicEntry → World → Prop} (hl : Lp w l n ps asn body f0 .ready pd)
    (hp : args.length = ps.length) (hps : ps.all (fun t => Nat.blt t n) = true) (hok : (codeOk n true asn && codeOk n true body) = true)
    (h : WC P ⟨n, some l⟩ asn (asnQ fun f' ds' w' => Lp w' l n ps asn body f0 .ready none ∧ ∀ w2, Keep [l] w' w2 → w2.heap.size = w'.heap.size → (∃ st pd', Lp w2 l n ps asn body f0 st pd') → WC P ⟨n, some l⟩ body (rndQ l n ps asn body f0 R) f' ds' w2) (ovz (ps.zip args) f0) [] w) :
    YldP P (.func (.yield l) #[] #[]) args w R Y := by
  obtain ⟨fn, tmps, blk, h1, h2, h3⟩ := hl
  have hsz : ¬ args.toArray.size ≠ ps.toArray.size := by simp [hp]
  refine ⟨l, fn, ((ps.zip args).foldl (fun tmps (p : Nat × Value) => tmps.setIfInBounds p.1 p.2) tmps), asn, body, w, rfl, ?_, ?_⟩
  · simp only [Instr.yield, Sem.run_bind, run_getLoop h1, Result.andThen_ok, if_neg hsz, Sem.run_pure]
    congr 2
    rw [← Array.foldl_toList]
    simp
  · simp only [Bool.and_eq_true] at hok
    refine RoundIn.mono (R := endR R Y) (roundIn_of_wpIn (F := Fence.wide) trivial ?_) (fun e w'' he => by cases e <;> exact he)
    have hq : (ps.zip args).foldl (fun tmps (p : Nat × Value) => tmps.setIfInBounds p.1 p.2) tmps = (ps.zip args).foldl (fun tmps (p : Nat × Value) => tmps.setIfInBounds p.1 p.2) tmps := rfl
    have hF : Fence.wide.inRound l = rnd (some l) := rfl
    rw [hF]
    refine wpIn_mono (wpIn_of_WC (P := P) (n := ⟨n, some l⟩) asn _ _ w ?_ hok.1 (by
      rw [toFr_sets, h3]
      · exact h
      · intro p hp'
        have := List.all_eq_true.1 hps p.1 (List.of_mem_zip hp').1
        rw [h2]; simpa [Nat.blt_eq] using this)) ?_
    · simp only [size_sets]; exact h2
    · intro e a w' hq
      obtain ⟨hn, hq⟩ := hq
      cases e with
      | normal =>
        obtain ⟨hr, hb⟩ := hq
        obtain ⟨w2, hb1, hb2, hb3, hb4⟩ := run_beginRound (P := P) hr
        refine ⟨w2, hb1, ?_⟩
        refine wpIn_mono (wpIn_of_WC (P := P) (n := ⟨n, some l⟩) body _ a w2 hn hok.2 (hb w2 hb2 hb3 ⟨_, _, hb4⟩)) ?_
        intro e a' w3 hq
        obtain ⟨_, hq⟩ := hq
        cases e with
        | normal =>
          obtain ⟨⟨st, pd3, hl3⟩, hk⟩ := hq
          obtain ⟨w4, e1, e2, e3, e4⟩ := run_endRound (P := P) none hl3
          exact ⟨_, w4, e1, hk w4 e2 e3 e4⟩
        | ret =>
          obtain ⟨⟨st, pd3, hl3⟩, hk⟩ := hq
          obtain ⟨w4, e1, e2, e3, e4⟩ := run_endRound (P := P) (some .ret) hl3
          exact ⟨_, w4, e1, hk w4 e2 e3 e4⟩
        | exit i =>
          obtain ⟨⟨st, pd3, hl3⟩, hk⟩ := hq
          obtain ⟨w4, e1, e2, e3, e4⟩ := run_endRound (P := P) (some (.exit i)) hl3
          exact ⟨_, w4, e1, hk w4 e2 e3 e4⟩
        | goto _ => exact hq.elim
        | panic _ => exact hq.elim
        | outgrown => exact hq.elim
      | _ => exact hq.elim

/-! ### The statement -/
/-- what the activation does behind the loop -/
def behind (Q : Post) (f : Fr) (ds : DS) (w : World) : Option Code → Prop
  | none => Q .normal f ds w
  | some .ret => Q .ret f ds w
  | some (.exit i) => Q (.exit i) f ds w
  | _ => False

theorem run_endLoop {l n : Nat} {ps : List Nat} {asn body : Code} {f0 : Fr} {st : LoopState} {pd : Option Code} (hst : (st == .busy) = false) (h : Lp w l n ps asn body f0 st pd) :
    ∃ w', (Instr.endLoop l).run P w = .ok pd w' ∧ Keep [l] w w' ∧ w'.heap.size = w.heap.size := by
  obtain ⟨fn, tmps, blk, h1, h2, h3⟩ := h
  refine ⟨setO w l (.loop ⟨.exhausted, pd, fn, tmps, ps.toArray, asn, body, blk⟩), ?_, setO_keep l _, setO_size l _⟩
  simp only [Instr.endLoop, Sem.run_bind, run_getLoop h1, Result.andThen_ok, hst, Bool.false_eq_true, if_false, run_setLoop _ h1, Sem.run_pure]

/-- an outermost range over a function -/
theorem C_rangeFunc {n : Nat} {Q : Post} {g : Operand} {ps : List Nat} {asn body : Code} {gf : FuncId} {v1 v2 : List Value} [hg : PlainFn P gf] (hv : ev f g = .func (.func gf) v1.toArray v2.toArray)
    (h : ∀ w1, Ext w w1 → w1.heap.size = w.heap.size + 2 → w1.heap[w.heap.size]? = some (.deferred (some [])) → Lp w1 (w.heap.size + 1) n ps asn body f .ready none →
      FnP P gf (v1 ++ [.func (.yield (w.heap.size + 1)) #[] #[]] ++ v2) w1
        (fun _ w3 => ∃ st pd, Lp w3 (w.heap.size + 1) n ps asn body f st pd ∧ (st == .busy) = false ∧
          ∀ w4, Keep [w.heap.size + 1] w3 w4 → w4.heap.size = w3.heap.size → behind Q f ({ target := .collected w.heap.size, args := #[] } :: ds) w4 pd)
        (fun ch w3 => Q (.panic ch) f ({ target := .collected w.heap.size, args := #[] } :: ds) w3)) :
    WC P ⟨n, none⟩ (.rangeFunc g ps.toArray asn body) Q f ds w := by
  rintro a hn rfl rfl
  obtain ⟨fn, g1, g2, g3⟩ := hg.out
  refine wpIn_rangeFunc fun fn0 _ => ?_
  have he := ev_toFr a
  let w1 : World := (w.alloc (.deferred (some []))).alloc (.loop ⟨.ready, none, fn0, a.tmps, ps.toArray, asn, body, w.heap.size⟩)
  have k1 : Ext w w1 := ⟨rfl, rfl, rfl, by simp [w1]; omega, fun k hk _ => by
    have := heap_alloc_old w (.deferred (some [])) hk
    rw [← this]
    exact heap_alloc_old _ _ (by simp; omega)⟩
  have s1 : w1.heap.size = w.heap.size + 2 := by simp [w1]
  have d1 : w1.heap[w.heap.size]? = some (.deferred (some [])) := by
    have := heap_alloc_new w (.deferred (some []))
    rw [← this]
    exact heap_alloc_old _ _ (by simp)
  have l1 : w1.heap[w.heap.size + 1]? = some (.loop ⟨.ready, none, fn0, a.tmps, ps.toArray, asn, body, w.heap.size⟩) := by
    have := heap_alloc_new (w.alloc (.deferred (some []))) (.loop ⟨.ready, none, fn0, a.tmps, ps.toArray, asn, body, w.heap.size⟩)
    simpa [w1] using this
  refine ⟨w.heap.size + 1, [{ target := .collected w.heap.size, args := #[] }], w1, { target := .fn (.func gf) v2.toArray, args := v1.toArray ++ #[Value.func (.yield (w.heap.size + 1)) #[] #[]] }, w1, gf, (v1 ++ [Value.func (.yield (w.heap.size + 1)) #[] #[]] ++ v2).toArray, w1, ?_, ?_, fun _ _ => trivial, ?_, rnd_depth, ?_⟩
  · have e1 : ∀ o (w : World), (newObj o).run P w = .ok w.heap.size (w.alloc o) := fun _ _ => rfl
    simp only [Instr.enterLoop, rnd, Sem.run_bind, e1, Sem.run_pure, Result.andThen_ok, w1]
    simp
  · rw [he]
    have ec : ∀ v, ev (toFr a) (.const v) = v := fun _ => rfl
    simp [resolve, hv, ec, Deferred.ofValue]
  · simp only [invoke, callFunc, program]
    simp [Sem.run, g1, g2, g3]
  · have hf := h w1 k1 s1 d1 ⟨fn0, a.tmps, _, l1, hn, rfl⟩
    have hc : CallsIn Fence.wide (0 - 1) P gf _ w1 _ := callsIn_wide.2 hf
    refine CallsIn.mono (F := rnd none) hc fun e w3 he => ?_
    cases e with
    | returned v =>
      obtain ⟨st, pd, h1, h2, h3⟩ := he
      obtain ⟨w4, e1, e2, e3⟩ := run_endLoop (P := P) h2 h1
      refine ⟨pd, w4, e1, ?_⟩
      have hb := h3 w4 e2 e3
      cases pd with
      | none => exact ⟨hn, hb⟩
      | some c =>
        cases c with
        | ret => exact wpIn_ret ⟨hn, hb⟩
        | exit i => exact wpIn_exit ⟨hn, hb⟩
        | _ => exact hb.elim
    | panicked ch => exact ⟨hn, he⟩
    | outgrown => exact he.elim

/-- how a round ends, the loop's record kept abstract -/
def rndA (l : Nat) (Rdy Bsy : World → Prop) (Don : Code → World → Prop) (R : Value → World → Prop) : Post
  | .normal => fun _ _ w => Bsy w ∧ ∀ w', Keep [l] w w' → w'.heap.size = w.heap.size → Rdy w' → R (.bool true) w'
  | .ret => fun _ _ w => Bsy w ∧ ∀ w', Keep [l] w w' → w'.heap.size = w.heap.size → Don .ret w' → R (.bool false) w'
  | .exit i => fun _ _ w => Bsy w ∧ ∀ w', Keep [l] w w' → w'.heap.size = w.heap.size → Don (.exit i) w' → R (.bool false) w'
  | _ => fun _ _ _ => False
theorem Q_asn {k : Fr → DS → World → Prop} (h : k f ds w) : asnQ k .normal f ds w := h
theorem Q_rnd {l : Nat} {Rdy Bsy : World → Prop} {Don : Code → World → Prop} {R : Value → World → Prop} (hb : Bsy w) (h : ∀ w', Keep [l] w w' → w'.heap.size = w.heap.size → Rdy w' → R (.bool true) w') : rndA l Rdy Bsy Don R .normal f ds w := ⟨hb, h⟩
theorem Q_rnd_ret {l : Nat} {Rdy Bsy : World → Prop} {Don : Code → World → Prop} {R : Value → World → Prop} (hb : Bsy w) (h : ∀ w', Keep [l] w w' → w'.heap.size = w.heap.size → Don .ret w' → R (.bool false) w') : rndA l Rdy Bsy Don R .ret f ds w := ⟨hb, h⟩
theorem Q_rnd_exit {l i : Nat} {Rdy Bsy : World → Prop} {Don : Code → World → Prop} {R : Value → World → Prop} (hb : Bsy w) (h : ∀ w', Keep [l] w w' → w'.heap.size = w.heap.size → Don (.exit i) w' → R (.bool false) w') : rndA l Rdy Bsy Don R (.exit i) f ds w := ⟨hb, h⟩

/-- what is known of a loop's record: ready, busy, done; and a round's rule -/
structure Loops (P : Program) (n l : Nat) (ps : List Nat) (asn body : Code) (f : Fr) (Rdy Bsy : World → Prop) (Don : Code → World → Prop) : Prop where
  rdy : ∀ {X : List Nat} {w w' : World}, Rdy w → Keep X w w' → l ∉ X → Rdy w'
  bsy : ∀ {X : List Nat} {w w' : World}, Bsy w → Keep X w w' → l ∉ X → Bsy w'
  don : ∀ {X : List Nat} {w w' : World} {c : Code}, Don c w → Keep X w w' → l ∉ X → Don c w'
  lt : ∀ {w : World}, Rdy w → l < w.heap.size
  nocell : ∀ {w : World}, Rdy w → ∀ o, w.cell? ⟨l, o, none⟩ = none
  round : ∀ {args : List Value} {R : Value → World → Prop} {Y : List PanicEntry → World → Prop} {w : World}, Rdy w → args.length = ps.length →
    WC P ⟨n, some l⟩ asn (asnQ fun f' ds' w' => Rdy w' ∧ ∀ w2, Keep [l] w' w2 → w2.heap.size = w'.heap.size → Bsy w2 → WC P ⟨n, some l⟩ body (rndA l Rdy Bsy Don R) f' ds' w2) (ovz (ps.zip args) f) [] w →
    YldP P (.func (.yield l) #[] #[]) args w R Y

theorem C_range {n : Nat} {Q : Post} {g : Operand} {ps : List Nat} {asn body : Code} {gf : FuncId} (v1 v2 : List Value) [hg : PlainFn P gf] (hv : ev f g = .func (.func gf) v1.toArray v2.toArray)
    (hps : (ps.all (fun t => Nat.blt t n) && (codeOk n true asn && codeOk n true body)) = true)
    (h : ∀ (Rdy Bsy : World → Prop) (Don : Code → World → Prop) (w1 : World), Loops P n (w.heap.size + 1) ps asn body f Rdy Bsy Don → Ext w w1 → w1.heap.size = w.heap.size + 2 → w1.heap[w.heap.size]? = some (.deferred (some [])) → Rdy w1 →
      Fn P gf (v1 ++ [.func (.yield (w.heap.size + 1)) #[] #[]] ++ v2) w1
        (fun _ w3 => (Rdy w3 ∧ ∀ w4, Keep [w.heap.size + 1] w3 w4 → w4.heap.size = w3.heap.size → Q .normal f ({ target := .collected w.heap.size, args := #[] } :: ds) w4) ∨
          ∃ c, Don c w3 ∧ ∀ w4, Keep [w.heap.size + 1] w3 w4 → w4.heap.size = w3.heap.size → behind Q f ({ target := .collected w.heap.size, args := #[] } :: ds) w4 (some c))) :
    WC P ⟨n, none⟩ (.rangeFunc g ps.toArray asn body) Q f ds w := by
  simp only [Bool.and_eq_true] at hps
  refine C_rangeFunc hv fun w1 k1 s1 d1 l1 => ?_
  refine FnP.mono (h (fun w' => Lp w' (w.heap.size + 1) n ps asn body f .ready none) (fun w' => ∃ st pd, Lp w' (w.heap.size + 1) n ps asn body f st pd) (fun c w' => Lp w' (w.heap.size + 1) n ps asn body f .done (some c)) w1
    ⟨fun a b c => a.keep b c, fun ⟨st, pd, a⟩ b c => ⟨st, pd, a.keep b c⟩, fun a b c => a.keep b c, fun a => a.lt, (fun a o => by obtain ⟨_, _, _, e, _⟩ := a; simp [World.cell?, e]), fun {args R Y w'} hr hl hw => ?_⟩ k1 s1 d1 l1) ?_ (fun _ _ hh => hh.elim)
  · have e : rndA (w.heap.size + 1) (fun w' => Lp w' (w.heap.size + 1) n ps asn body f .ready none) (fun w' => ∃ st pd, Lp w' (w.heap.size + 1) n ps asn body f st pd) (fun c w' => Lp w' (w.heap.size + 1) n ps asn body f .done (some c)) R = rndQ (w.heap.size + 1) n ps asn body f R := by
      funext e; cases e <;> rfl
    rw [e] at hw
    refine yld_of_wc hr hl hps.1 (by rw [Bool.and_eq_true]; exact hps.2) ?_
    exact hw
  · rintro v w3 (⟨a, b⟩ | ⟨c, a, b⟩)
    · exact ⟨_, _, a, rfl, fun w4 x y => b w4 x y⟩
    · exact ⟨_, _, a, rfl, fun w4 x y => b w4 x y⟩

/-! ### How a function with marks is left -/
theorem fn_of_wcD {g : FuncId} {fn : Func} {c : Code} {args : List Value} {R : Value → World → Prop} (hf : P.funcs[g]? = some fn) (hb : fn.body = some c) {n : Nat} (hn : fn.ntmps = n) (hl : args.length ≤ n) (hok : codeOk n false c = true)
    (h : WC P ⟨n, none⟩ c (finD P fn R fun _ _ => False) (argF args) [] w) : Fn P g args w R := fnD_of_wc hf hb hn hl hok h

theorem takeDeferred_ok {b : Nat} (h : w.heap[b]? = some (.deferred (some []))) : ∃ w', (Instr.takeDeferred b).run P w = .ok [] w' ∧ Keep [b] w w' ∧ w'.heap.size = w.heap.size := by
  refine ⟨setO w b (.deferred none), ?_, setO_keep b _, setO_size b _⟩
  simp [Instr.takeDeferred, getObj, setObj, Sem.run, h, setO]

section
variable {fn : Func} {R : Value → World → Prop} {Y : List PanicEntry → World → Prop} {t u v b : Nat}
theorem finD_ret1 (hr : fn.results.toList = [.tmp t]) (h : R (f t) w) : finD P fn R Y .ret f [] w := by
  simp only [finD, lv, hr]; exact h
theorem finD_ret2 (hr : fn.results.toList = [.tmp t, .tmp u]) (h : R (.tuple #[f t, f u]) w) : finD P fn R Y .ret f [] w := by
  simp only [finD, lv, hr]; exact h
theorem finD_mark {a : Array Value} (hb : w.heap[b]? = some (.deferred (some []))) (h : ∀ w', Keep [b] w w' → w'.heap.size = w.heap.size → finD P fn R Y .ret f ds w') : finD P fn R Y .ret f ({ target := .collected b, args := a } :: ds) w := by
  obtain ⟨w', h1, h2, h3⟩ := takeDeferred_ok (P := P) hb
  simp only [finD]
  refine ⟨by simp, .inl ⟨b, w', rfl, h1, h w' h2 h3⟩⟩
end

attribute [irreducible] asnQ rndA rndQ YldP

end Go.Proofs.YteonolnfgppagaaDoor
