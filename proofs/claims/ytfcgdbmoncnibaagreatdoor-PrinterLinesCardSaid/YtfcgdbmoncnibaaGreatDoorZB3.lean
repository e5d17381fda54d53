/- Rules: deferred calls that recover, what an interface holds, results that lie in cells. The lexer: kinds of bytes, prefixes. The lexer: the state of a scanner, bytes in a row, a token added. The lexer: blanks, comments, names, numbers, symbols. The lexer: numbers. The lexer: symbols, and the table of kinds. The lexer: the scan of a text. The lexer: Lex, and its deferred call. The lexer: what Lex answers. Conditions: none. -/
import Derived.Test.YtfcgdbmoncnibaaGreatDoorZB2
import Derived.RecoverIn

namespace Go.Proofs.YtfcgdbmoncnibaaGreatDoor
open Go.RowKit
variable {mk : Prop} [MK mk]
attribute [local semireducible] WC AW Bi BG Bc Ca Cs Be
section
variable {P : Program} {all : Array Oper} {Z : Fr → DS → List PanicEntry → World → Prop} {K : Fr → DS → World → Prop} {rest : List Oper} {f : Fr} {ds : DS} {w : World}
 {d : Nat} {ty : TypeId} {pos : String} {af : Array Edge}
theorem W_defer {g : FuncId} {t : Nat} {xs : List Operand} {ats : Array TypeId} {vs v1 v2 : List Value} (hf : f t = .func (.func g) v1.toArray v2.toArray) (ha : evL f xs = vs)
  (h : AW P all Z K rest f ({ target := .fn (.func g) v2.toArray, args := (v1 ++ vs).toArray } :: ds) w) : AW P all Z K (⟨none, .defer ⟨.value (.tmp t), xs.toArray, ats⟩, ty, pos, af, none⟩ :: rest) f ds w := by
 have hr : (execOp (ev f) ⟨none, .defer ⟨.value (.tmp t), xs.toArray, ats⟩, ty, pos, af, none⟩).run P w = .ok (.defer { target := .fn (.func g) v2.toArray, args := (v1 ++ vs).toArray }) w := by
  rw [evL_map] at ha
  simp only [execOp, resolve, ev, hf, Deferred.ofValue, Sem.run_bind, Sem.run_pure, Result.andThen_ok]
  simp [← ha]
 unfold AW
 simp only [BF, if_true, Be, hr]
 exact h
theorem W_assert_yes {x : Operand} {xt T : TypeId} {v : Value} [hT : ConcT P T] (hx : ev f x = .iface T v) (h : AW P all Z K rest (upd f d (.tuple #[v, .bool true])) ds w) :
  AW P all Z K (⟨some d, .typeAssert x xt T true, ty, pos, af, none⟩ :: rest) f ds w := by
 obtain ⟨dd, h1, h2⟩ := hT.out
 refine Ax rfl ?_ h
 simp only [execOp, hx, Instr.typeAssert, Sem.run_bind, run_underlying h1, Result.andThen_ok]
 cases dd <;> simp_all
theorem W_assert_nil {x : Operand} {xt T : TypeId} {z : Value} [hT : ConcT P T] (hx : ev f x = .nilIface) (hz : (P.info? T).map (·.zero) = some (some z)) (h : AW P all Z K rest (upd f d (.tuple #[z, .bool false])) ds w) :
  AW P all Z K (⟨some d, .typeAssert x xt T true, ty, pos, af, none⟩ :: rest) f ds w := by
 obtain ⟨dd, h1, h2⟩ := hT.out
 obtain ⟨i, hi, hs⟩ := Option.map_eq_some_iff.1 hz
 refine Ax rfl ?_ h
 simp only [execOp, hx, Instr.typeAssert, Sem.run_bind, run_underlying h1, Result.andThen_ok]
 cases dd <;> simp_all [zeroValue, typeInfo]
end
def plainOp : Op → Bool
 | .move _ | .assign _ | .alloc _ | .store _ _ _ | .load _ _ | .extract _ _ | .typeAssert _ _ _ _ | .fieldAddr _ _ _ | .binOp _ _ _ _ _ => true
 | _ => false
theorem run_v {P : Program} {w : World} (s : Sem Value) : (∃ v w', (do pure (Next.value (← s)) : Sem Next).run P w = .ok (.value v) w') ∨ ∃ x w', (do pure (Next.value (← s)) : Sem Next).run P w = .halt x w' := by
 simp only [Sem.run_bind]
 cases s.run P w with
 | ok v w' => exact .inl ⟨v, w', rfl⟩
 | halt x w' => exact .inr ⟨x, w', rfl⟩
theorem plain_cases {P : Program} {w : World} {ρ : Operand → Value} {o : Oper} (h : plainOp o.op = true) :
  (∃ v w', (execOp ρ o).run P w = .ok (.value v) w') ∨ (∃ w', (execOp ρ o).run P w = .ok .skip w') ∨ ∃ x w', (execOp ρ o).run P w = .halt x w' := by
 obtain ⟨dst, op, ty, pos, af, g⟩ := o
 cases op <;> simp only [plainOp] at h <;> try (cases h; done)
 case store t a x =>
  simp only [execOp, Sem.run_bind]
  cases (Instr.storeAt t (ρ a) (ρ x)).run P w with
  | ok v w' => exact .inr (.inl ⟨w', rfl⟩)
  | halt x w' => exact .inr (.inr ⟨x, w', rfl⟩)
 case move => exact .inl ⟨_, _, rfl⟩
 case assign => exact .inl ⟨_, _, rfl⟩
 all_goals
  simp only [execOp]
  rcases run_v (P := P) (w := w) _ with ⟨v, w', h⟩ | ⟨x, w', h⟩
  ·exact .inl ⟨v, w', h⟩
  ·exact .inr (.inr ⟨x, w', h⟩)
theorem S_of_WOps {P : Program} {ops : Array Oper} {F : Fence} {n N : Nat} {Q : Exit → Act → List Frame → World → Prop} {cs : List Frame} {K : Fr → DS → World → Prop} (hF : ∀ g, F.fn g)
  (hK : ∀ a' w', a'.tmps.size = N → K (Bp a') a'.defers w' → Q .normal a' cs w') : ∀ (l : List Nat) (os : List Oper) (a : Act) (w : World), l.map (fun i => ops[i]?) = os.map some → (os.all fun o => plainOp o.op && dOk N o.dst) = true →
   a.tmps.size = N → AW P ops (fun _ _ _ _ => False) K os (Bp a) a.defers w → wpOpsSIn F n P ops Q l a cs w
 | [], [], a, w, _, _, hn, h => hK a w hn h
 | [], _ :: _, _, _, h, _, _, _ => by simp at h
 | _ :: _, [], _, _, h, _, _, _ => by simp at h
 | i :: l, o :: os, a, w, hl, hp, hn, h => by
  simp only [List.map_cons, List.cons.injEq] at hl
  simp only [List.all_cons, Bool.and_eq_true] at hp
  obtain ⟨⟨hpo, hdo⟩, hp⟩ := hp
  unfold wpOpsSIn
  simp only [hl.1]
  refine ⟨fun g _ => hF g, ?_⟩
  have put : ∀ v, Bp (a.put o.dst v) = putF (Bp a) o.dst v := fun v => toFr_putF v (by rw [hn]; exact hdo)
  have go : ∀ v w', AW P ops (fun _ _ _ _ => False) K os (putF (Bp a) o.dst v) a.defers w' → wpOpsSIn F n P ops Q l (a.put o.dst v) cs w' := fun v w' h' =>
   S_of_WOps hF hK l os (a.put o.dst v) w' hl.2 hp (by rw [size_put]; exact hn) (by rw [put, defers_put]; exact h')
  unfold AW at h
  rw [wanted_toFr]
  by_cases hw : BF ops (Bp a) o.guard = true
  ·rw [if_pos hw] at h ⊢
   unfold Be at h
   rw [ev_toFr]
   rcases plain_cases (P := P) (w := w) (ρ := ev (Bp a)) hpo with ⟨v, w', hr⟩ | ⟨w', hr⟩ | ⟨x, w', hr⟩
   ·rw [hr] at h ⊢; exact go _ _ h
   ·rw [hr] at h ⊢; exact go _ _ h
   ·rw [hr] at h
    cases x <;> exact h.elim
  ·rw [if_neg hw] at h ⊢
   exact go _ _ h
theorem CY {P : Program} {g : FuncId} {fn : Func} {id d N : Nat} {ats : Array TypeId} {ty : TypeId} {pos : String} {af : Array Edge} {os : List Oper} {y : Code} {args : List Value} {w : World} {u u1 : FrameMode} {v0 : Value} {G : Value → World → Prop}
  (hf : P.funcs[g]? = some fn) (hb : fn.body = some (.seq (.region id (⟨some d, .call ⟨.builtin .recover, #[], ats⟩, ty, pos, af, none⟩ :: os).toArray false) y)) (hn : fn.ntmps = N) (hl : args.length ≤ N) (hd : d < N)
  (hos : (os.all fun o => plainOp o.op && dOk N o.dst) = true) (hy : B3 N false y = true)
  (hu : (u = .returning ∧ u1 = .returning ∧ v0 = .nilIface) ∨ ∃ p, u = .panicking [{ v := p, recovered := false }] ∧ u1 = .panicking [{ v := p, recovered := true }] ∧ v0 = p)
  (h : AW P (⟨some d, .call ⟨.builtin .recover, #[], ats⟩, ty, pos, af, none⟩ :: os).toArray (fun _ _ _ _ => False) (WC P ⟨N, none⟩ y (Ca P fn G fun _ _ => False)) os (upd (argF args) d v0) [] w) :
  CallsDIn Fence.wide 0 P g args.toArray u w (fun e u' w' => match e with | .returned v => u' = u1 ∧ G v w' | _ => False) := by
 have hs : (args.toArray ++ Array.replicate (fn.ntmps - args.toArray.size) undef).size = N := by simp [hn]; omega
 refine callsDIn_of_wpSIn hf hb trivial fun c₀ cs hc => ?_
 refine wpSIn_seq (wpSIn_region ?_)
 have hrange : List.range (⟨some d, .call ⟨.builtin .recover, #[], ats⟩, ty, pos, af, none⟩ :: os : List Oper).toArray.size = 0 :: (List.range os.length).map (· + 1) := by
  rw [List.size_toArray, List.length_cons, List.range_succ_eq_map]
 rw [hrange]
 unfold wpOpsSIn
 simp only [List.getElem?_toArray, List.getElem?_cons_zero]
 refine ⟨fun _ _ => trivial, ?_⟩
 simp only [Region.wanted, if_true]
 have hr : ∀ ρ : Operand → Value, (execOp ρ ⟨some d, .call ⟨.builtin .recover, #[], ats⟩, ty, pos, af, none⟩).run P w = .ok .recover w := fun ρ => by
  simp [execOp, resolve, invoke, builtin]
 rw [hr]
 have key : ∀ c₁ : Frame, c₁ = { c₀ with mode := u1 } → wpOpsSIn Fence.wide 0 P (⟨some d, .call ⟨.builtin .recover, #[], ats⟩, ty, pos, af, none⟩ :: os : List Oper).toArray
   (Exit.thenS (y.wpSIn Fence.wide 0 P (bodyPostS P fn c₀ cs fun e u' w' => match e with | .returned v => u' = u1 ∧ G v w' | _ => False)) (bodyPostS P fn c₀ cs fun e u' w' => match e with | .returned v => u' = u1 ∧ G v w' | _ => False))
   ((List.range os.length).map (· + 1)) (({ tmps := args.toArray ++ Array.replicate (fn.ntmps - args.toArray.size) undef, defers := [] } : Act).put (some d) v0) (c₁ :: cs) w := by
  rintro c₁ rfl
  refine S_of_WOps (N := N) (K := WC P ⟨N, none⟩ y (Ca P fn G fun _ _ => False)) (fun _ => trivial) ?_ _ os _ w ?_ hos (by rw [size_put]; exact hs) ?_
  ·intro a' w' ha hwc
   have hp := Bn (P := P) (n := ⟨N, none⟩) y (Ca P fn G fun _ _ => False) a' w' ha hy hwc
   refine wpSIn_of_wpIn rfl (wpIn_mono hp ?_)
   rintro e a2 w2 ⟨_, hq⟩
   cases e with
   | normal => obtain ⟨h1, h2⟩ := hq; obtain ⟨l, h3, h4⟩ := run_results h2; exact ⟨h1, _, rfl, _, h4, rfl, h3⟩
   | ret => obtain ⟨h1, h2⟩ := hq; obtain ⟨l, h3, h4⟩ := run_results h2; exact ⟨h1, _, rfl, _, h4, rfl, h3⟩
   | panic ch => exact hq.2.elim
   | exit _ => exact hq.elim
   | goto _ => exact hq.elim
   | outgrown => exact hq.elim
  ·refine List.ext_getElem? fun i => ?_
   rw [List.map_map, List.getElem?_map, List.getElem?_map]
   by_cases hi : i < os.length
   ·rw [List.getElem?_range hi]; simp [hi]
   ·rw [List.getElem?_eq_none (by simpa using hi), List.getElem?_eq_none (by simpa using hi)]; rfl
  ·rw [defers_put, toFr_put v0 (by rw [hs]; exact hd), toFr_args]
   exact h
 rcases hu with ⟨rfl, rfl, rfl⟩ | ⟨p, rfl, rfl, rfl⟩
 ·have hrd : recoverD (c₀ :: cs) = none := by simp [recoverD, hc]
  rw [hrd]
  exact key c₀ (by cases c₀; simp_all)
 ·have hrd : recoverD (c₀ :: cs) = some (v0, { c₀ with mode := .panicking [{ v := v0, recovered := true }] } :: cs) := by simp [recoverD, hc]
  rw [hrd]
  exact key _ rfl
section
variable {P : Program} {fn : Func} {R : Value → World → Prop} {Y : List PanicEntry → World → Prop} {f : Fr} {w : World} {ds : DS}
theorem run_loadVar_one {T b o : Nat} {v : Value} (hT : OneT P T) (hc : w.cell? ⟨b, o, none⟩ = some v) : (loadVar T ⟨b, o, none⟩).run P w = .ok v w := by
 obtain ⟨dd, h1, h2⟩ := hT.out
 have e : (isAgg T).run P w = .ok false w := by
  simp only [isAgg, Sem.run_bind, run_underlying h1, Result.andThen_ok]
  cases dd <;> simp_all [aggD]
 simp only [loadVar, Sem.run_bind, e, Result.andThen_ok]
 simp [hc]
theorem BI {T b o t : Nat} {v : Value} {l : List ResultVar} {k : List Value → Prop} [hT : OneT P T] (ha : f t = .pointer (some ⟨b, o, none⟩)) (hc : w.cell? ⟨b, o, none⟩ = some v) (h : CS P l f w fun r => k (v :: r)) : CS P (.cell t T :: l) f w k :=
 ⟨_, v, ha, run_loadVar_one hT hc, h⟩
theorem finD_ret_nil (h : CS P fn.results.toList f w fun l => R (tupleOf l) w) : Cs P fn R Y .ret f [] w := h
theorem finD_ret_def {g : FuncId} {a c : List Value} [hg : AR P g] {G : World → Prop} (hc : CallsDIn Fence.wide 0 P g (a ++ c).toArray .returning w (fun e u' w' => match e with | .returned _ => u' = .returning ∧ G w' | _ => False))
  (h : ∀ w', G w' → CS P fn.results.toList f w' fun l => R (tupleOf l) w') : Cs P fn R Y .ret f [{ target := .fn (.func g) c.toArray, args := a.toArray }] w := by
 obtain ⟨fn', h1, h2, h3⟩ := hg.out
 refine ⟨by simp, .inr ⟨_, _, g, (a ++ c).toArray, rfl, ?_, hc.mono ?_⟩⟩
 ·simp only [invoke, callFunc, program]
  simp [Sem.run, h1, h2, h3]
 ·intro e u' w' he
  cases e with
  | returned v => obtain ⟨rfl, hG⟩ := he; exact h w' hG
  | panicked _ => exact he.elim
  | outgrown => exact he.elim
theorem finD_pan_def {g : FuncId} {a c : List Value} {p : Value} [hg : AR P g] {G : World → Prop} (hc : CallsDIn Fence.wide 0 P g (a ++ c).toArray (.panicking [{ v := p, recovered := false }]) w (fun e u' w' => match e with | .returned _ => u' = .panicking [{ v := p, recovered := true }] ∧ G w' | _ => False))
  (h : ∀ w', G w' → CS P fn.results.toList f w' fun l => R (tupleOf l) w') : Cs P fn R Y (.panic [{ v := p, recovered := false }]) f [{ target := .fn (.func g) c.toArray, args := a.toArray }] w := by
 obtain ⟨fn', h1, h2, h3⟩ := hg.out
 refine ⟨by simp, .inr ⟨_, _, g, (a ++ c).toArray, rfl, ?_, hc.mono ?_⟩⟩
 ·simp only [invoke, callFunc, program]
  simp [Sem.run, h1, h2, h3]
 ·intro e u' w' he
  cases e with
  | returned v => obtain ⟨rfl, hG⟩ := he; exact h w' hG
  | panicked _ => exact he.elim
  | outgrown => exact he.elim
end
class Nx (g : Prop) (c s : outParam Prop) : Prop where
 imp : c → s → g
theorem nx {g c s : Prop} [h : Nx g c s] (y : c) (x : s) : g := h.imp y x
section
variable {P : Program} {n : Cf} {Q : CD} {f : Fr} {ds : DS} {w : World} {a b : Code} {k : Fr → DS → World → Prop} {i j l : Nat} {o : Operand} {c : List PanicEntry} {all : Array Oper} {Z : Fr → DS → List PanicEntry → World → Prop}
instance : Nx (WC P n (.seq a b) Q f ds w) (0 = 0) (WC P n a (Bi (WC P n b Q) Q) f ds w) := ⟨fun _ => Cx⟩
instance : Nx (WC P n (.block i a) Q f ds w) (0 = 0) (WC P n a (BG i Q) f ds w) := ⟨fun _ => C_block⟩
instance : Nx (WC P n (.scope a) Q f ds w) (0 = 0) (WC P n a (Bc Q) f ds w) := ⟨fun _ => C_scope⟩
instance : Nx (WC P n .skip Q f ds w) (0 = 0) (Q .normal f ds w) := ⟨fun _ => C_skip⟩
instance : Nx (WC P n (.label l) Q f ds w) (0 = 0) (Q .normal f ds w) := ⟨fun _ => C_label⟩
instance : Nx (WC P n .ret Q f ds w) (0 = 0) (Q .ret f ds w) := ⟨fun _ => C_ret⟩
instance : Nx (WC P n (.exit i) Q f ds w) (0 = 0) (Q (.exit i) f ds w) := ⟨fun _ => C_exit⟩
instance : Nx (Bi k Q .normal f ds w) (0 = 0) (k f ds w) := ⟨fun _ => Cu⟩
instance : Nx (Bi k Q .ret f ds w) (0 = 0) (Q .ret f ds w) := ⟨fun _ => Q_then_ret⟩
instance : Nx (Bi k Q (.exit i) f ds w) (0 = 0) (Q (.exit i) f ds w) := ⟨fun _ => Q_then_exit⟩
instance : Nx (Bi k Q (.panic c) f ds w) (0 = 0) (Q (.panic c) f ds w) := ⟨fun _ => Q_then_panic⟩
instance : Nx (BG i Q .normal f ds w) (0 = 0) (Q .normal f ds w) := ⟨fun _ => Q_block⟩
instance : Nx (BG i Q .ret f ds w) (0 = 0) (Q .ret f ds w) := ⟨fun _ => Q_block_ret⟩
instance : Nx (BG i Q (.panic c) f ds w) (0 = 0) (Q (.panic c) f ds w) := ⟨fun _ => Q_block_panic⟩
instance : Nx (BG i Q (.exit i) f ds w) (0 = 0) (Q .normal f ds w) := ⟨fun _ => Q_block_here⟩
instance : Nx (asnQ k .normal f ds w) (0 = 0) (k f ds w) := ⟨fun _ => Q_asn⟩
instance : Nx (Bc Q .normal f ds w) (0 = 0) (Q .normal f ds w) := ⟨fun _ => fun h => h⟩
instance : Nx (Bc Q .ret f ds w) (0 = 0) (Q .ret f ds w) := ⟨fun _ => fun h => h⟩
instance : Nx (Bc Q (.exit i) f ds w) (0 = 0) (Q (.exit i) f ds w) := ⟨fun _ => fun h => h⟩
instance : Nx (Bc Q (.panic c) f ds w) (0 = 0) (Q (.panic c) f ds w) := ⟨fun _ => fun h => h⟩
instance : Nx (AW P all Z k [] f ds w) (0 = 0) (k f ds w) := ⟨fun _ => AE⟩
instance (priority := low) : Nx (BG j Q (.exit i) f ds w) (Nat.beq i j = false) (Q (.exit i) f ds w) := ⟨Q_block_on⟩
instance : Nx (WC P n (.cond o a b) Q f ds w) (ev f o = .bool true) (WC P n a Q f ds w) := ⟨C_cond_t⟩
theorem nf (hc : ev f o = .bool false) (h : WC P n b Q f ds w) : WC P n (.cond o a b) Q f ds w := C_cond_f hc h
end
end Go.Proofs.YtfcgdbmoncnibaaGreatDoor
namespace Go.Proofs.YtfcgdbmoncnibaaGreatDoor
open Go.RowKit
set_option linter.unusedVariables false
variable {mk : Prop} [MK mk]
def BP (c : UInt8) : Bool := decide (97 ≤ c.toNat) && decide (c.toNat ≤ 122)
def isUp (c : UInt8) : Bool := decide (65 ≤ c.toNat) && decide (c.toNat ≤ 90)
def A0 (c : UInt8) : Bool := decide (48 ≤ c.toNat) && decide (c.toNat ≤ 57)
def isLet (c : UInt8) : Bool := BP c || isUp c
def CP (c : UInt8) : Bool := BP c || A0 c || decide (c.toNat = 95)
def inComm (c : UInt8) : Bool := !decide (c.toNat = 10)
def Test (g : FuncId) (p : UInt8 → Bool) : Prop := ∀ (c : UInt8) (w : World), Fn Tryz.prog g [enc8 c] w fun v w' => v = .bool (p c) ∧ w' = w
theorem small_ok : Test 148 BP := by
 intro c w
 refine Ac Tryz.func148 rfl Tryz.ntmps148 (Nat.le_of_ble_eq_true rfl) (by kernel_rfl) ?_
 repeat' first | refine nx rfl ?_ | fail
 refine AA (AC (AB rfl ?_))
 repeat' first | refine nx rfl ?_ | fail
 (refine AA (AI rfl ?_) <;> (refine Ba rfl rfl (fun hc => ?_) (fun hc => ?_) <;> try omega) <;> refine AB rfl ?_ <;> (first | refine AJ rfl ?_ | (refine AF rfl ?_; refine AI rfl ?_)) <;> (first | refine AJ rfl ?_ | (refine AF rfl ?_; (refine Ba rfl rfl (fun hc => ?_) (fun hc => ?_) <;> try omega))) <;> ((first | refine AL rfl ?_ | refine AQ rfl ?_); refine AB rfl ?_) <;> refine AC (AB rfl (AE ?_)))
 all_goals
  repeat' first | refine nx rfl ?_ | fail
  exact AP rfl ⟨by simp [BP, upd, Nat.beq]; omega, rfl⟩
theorem dig_ok : Test 149 A0 := by
 intro c w
 refine Ac Tryz.func149 rfl Tryz.ntmps149 (Nat.le_of_ble_eq_true rfl) (by kernel_rfl) ?_
 repeat' first | refine nx rfl ?_ | fail
 refine AA (AC (AB rfl ?_))
 repeat' first | refine nx rfl ?_ | fail
 (refine AA (AI rfl ?_) <;> (refine Ba rfl rfl (fun hc => ?_) (fun hc => ?_) <;> try omega) <;> refine AB rfl ?_ <;> (first | refine AJ rfl ?_ | (refine AF rfl ?_; refine AI rfl ?_)) <;> (first | refine AJ rfl ?_ | (refine AF rfl ?_; (refine Ba rfl rfl (fun hc => ?_) (fun hc => ?_) <;> try omega))) <;> ((first | refine AL rfl ?_ | refine AQ rfl ?_); refine AB rfl ?_) <;> refine AC (AB rfl (AE ?_)))
 all_goals
  repeat' first | refine nx rfl ?_ | fail
  exact AP rfl ⟨by simp [A0, upd, Nat.beq]; omega, rfl⟩
theorem comm_ok : Test 146 inComm := by
 intro c w
 refine Ac Tryz.func146 rfl Tryz.ntmps146 (Nat.le_of_ble_eq_true rfl) (by kernel_rfl) ?_
 repeat' first | refine nx rfl ?_ | fail
 refine AA (AC (AB rfl ?_))
 repeat' first | refine nx rfl ?_ | fail
 (refine AA (AI rfl ?_) <;> (refine Cj rfl rfl (fun hc => ?_) (fun hc => ?_) <;> try omega) <;> refine AC (AB rfl (AE ?_)))
 all_goals
  repeat' first | refine nx rfl ?_ | fail
  exact AP rfl ⟨by simp [inComm, upd, Nat.beq]; omega, rfl⟩
theorem let_ok : Test 151 isLet := by
 intro c w
 refine Ac Tryz.func151 rfl Tryz.ntmps151 (Nat.le_of_ble_eq_true rfl) (by kernel_rfl) ?_
 repeat' first | refine nx rfl ?_ | fail
 refine AA (AC (AB rfl ?_))
 repeat' first | refine nx rfl ?_ | fail
 refine AA (AI rfl ?_)
 refine AS (small_ok c w) rfl ?_
 rintro v w' ⟨rfl, rfl⟩
 cases hs : BP c with
 | true =>
  refine AB rfl (AJ rfl (AJ rfl (AJ rfl (AJ rfl (AJ rfl (AJ rfl (AL rfl (AB rfl (AC (AB rfl (AE ?_)))))))))))
  all_goals
   repeat' first | refine nx rfl ?_ | fail
   exact AP rfl ⟨by simp [isLet, hs, upd, Nat.beq], rfl⟩
 | false =>
  (refine AB rfl (AF rfl (AI rfl ?_)) <;> (refine AF rfl ?_; (refine Ba rfl rfl (fun hc => ?_) (fun hc => ?_) <;> try omega)) <;> refine AF rfl (AB rfl ?_) <;> (first | refine AJ rfl ?_ | (refine AF rfl ?_; refine AI rfl ?_)) <;> (first | refine AJ rfl ?_ | (refine AF rfl ?_; (refine Ba rfl rfl (fun hc => ?_) (fun hc => ?_) <;> try omega))) <;> (refine AF rfl ?_; ((first | refine AL rfl ?_ | refine AQ rfl ?_); refine AB rfl ?_)) <;> refine AQ rfl (AB rfl (AC (AB rfl (AE ?_)))))
  all_goals
   repeat' first | refine nx rfl ?_ | fail
   exact AP rfl ⟨by simp [isLet, hs, isUp, upd, Nat.beq]; omega, rfl⟩
theorem name_ok : Test 147 CP := by
 intro c w
 refine Ac Tryz.func147 rfl Tryz.ntmps147 (Nat.le_of_ble_eq_true rfl) (by kernel_rfl) ?_
 repeat' first | refine nx rfl ?_ | fail
 refine AA (AC (AB rfl ?_))
 repeat' first | refine nx rfl ?_ | fail
 refine AA (AI rfl ?_)
 refine AS (small_ok c w) rfl ?_
 rintro v w' ⟨rfl, rfl⟩
 cases hs : BP c with
 | true =>
  refine AB rfl (AJ rfl (AJ rfl (AL rfl (AB rfl (AB rfl (AJ rfl (AJ rfl (AL rfl (AB rfl (AC (AB rfl (AE ?_))))))))))))
  all_goals
   repeat' first | refine nx rfl ?_ | fail
   exact AP rfl ⟨by simp [CP, hs, upd, Nat.beq], rfl⟩
 | false =>
  refine AB rfl (AF rfl (AI rfl ?_))
  refine AF rfl ?_
  refine AS (dig_ok c _) rfl ?_
  rintro v w' ⟨rfl, rfl⟩
  cases hd : A0 c with
  | true =>
   refine AQ rfl (AB rfl (AB rfl (AJ rfl (AJ rfl (AL rfl (AB rfl (AC (AB rfl (AE ?_)))))))))
   all_goals
    repeat' first | refine nx rfl ?_ | fail
    exact AP rfl ⟨by simp [CP, hs, hd, upd, Nat.beq], rfl⟩
  | false =>
   (refine AQ rfl (AB rfl (AB rfl (AF rfl (AI rfl ?_)))) <;> (refine AF rfl ?_; (refine AK rfl rfl (fun hc => ?_) (fun hc => ?_) <;> try omega)) <;> refine AQ rfl (AB rfl (AC (AB rfl (AE ?_)))))
   all_goals
    repeat' first | refine nx rfl ?_ | fail
    exact AP rfl ⟨by simp [CP, hs, hd, upd, Nat.beq]; omega, rfl⟩
def hasPre (t s : List UInt8) : Bool := decide (s.length ≤ t.length) && decide (t.take s.length = s)
theorem hasPre_iff (t s : List UInt8) : hasPre t s = true ↔ s <+: t := by
 simp only [hasPre, Bool.and_eq_true, decide_eq_true_eq, List.prefix_iff_eq_take]
 constructor
 ·rintro ⟨_, h⟩; exact h.symm
 ·intro h; exact ⟨by have := congrArg List.length h; simp at this; omega, h.symm⟩
theorem pre2_ok (t s : List UInt8) (w : World) : Fn Tryz.prog 159 [AM t, AM s] w fun v w' => v = .bool (hasPre t s) ∧ w' = w := by
 refine Ac Tryz.func159 rfl Tryz.ntmps159 (Nat.le_of_ble_eq_true rfl) (by kernel_rfl) ?_
 repeat' first | refine nx rfl ?_ | fail
 refine AA (AC (AB rfl ?_))
 repeat' first | refine nx rfl ?_ | fail
 (refine AA (Ab rfl (A9 rfl (Ab rfl (A9 rfl ?_)))) <;> (refine W_geq rfl rfl (fun hc => ?_) (fun hc => ?_) <;> try omega) <;> refine AB rfl ?_ <;> (first | refine AJ rfl ?_ | (refine AF rfl ?_; refine Ab rfl ?_)) <;> (first | refine AJ rfl ?_ | (refine AF rfl ?_; refine Ab rfl ?_)) <;> (first | refine AJ rfl ?_ | (refine AF rfl ?_; refine A9 rfl ?_)) <;> (first | refine AJ rfl ?_ | (refine AF rfl ?_; refine W_sslice_h rfl rfl (by omega) ?_)) <;> (first | refine AJ rfl ?_ | (refine AF rfl ?_; refine Ab rfl ?_)) <;> (first | refine AJ rfl ?_ | (refine AF rfl ?_; refine Bu rfl rfl (fun hc => ?_) (fun hc => ?_))) <;> ((first | refine AL rfl ?_ | refine AQ rfl ?_); refine AB rfl ?_) <;> refine AC (AB rfl (AE ?_)))
 all_goals
  repeat' first | refine nx rfl ?_ | fail
  exact AP rfl ⟨by simp [hasPre, upd, Nat.beq]; first | omega | (intro; omega) | (intro h; exact absurd h (by assumption)) | exact ⟨by omega, by assumption⟩ | skip, rfl⟩
theorem pre_ok (t s : List UInt8) (w : World) : Fn Tryz.prog 152 [AM t, AM s] w fun v w' => v = .bool (hasPre t s) ∧ w' = w := by
 refine Ac Tryz.func152 rfl Tryz.ntmps152 (Nat.le_of_ble_eq_true rfl) (by kernel_rfl) ?_
 repeat' first | refine nx rfl ?_ | fail
 refine AA (AC (AB rfl ?_))
 repeat' first | refine nx rfl ?_ | fail
 refine AA (Ab rfl (Ab rfl ?_))
 refine AS (pre2_ok t s w) rfl ?_
 rintro v w' ⟨rfl, rfl⟩
 ((refine AC ?_; refine AB rfl ?_))
 repeat' first | refine nx rfl ?_ | fail
 exact AP rfl ⟨rfl, rfl⟩
end Go.Proofs.YtfcgdbmoncnibaaGreatDoor
namespace Go.Proofs.YtfcgdbmoncnibaaGreatDoor
open Go.RowKit
set_option linter.unusedVariables false
variable {mk : Prop} [MK mk]
structure Tok where
 kind : Int
 text : List UInt8
 loc : Nat
deriving DecidableEq
def tokC (k : Tok) : List Value := [.int .i64 k.kind, AM k.text, .int .i64 (k.loc : Int)]
def toksC (l : List Tok) : List Value := l.flatMap tokC
abbrev pt (s : Nat) : Value := .pointer (some ⟨s, 0, none⟩)
abbrev fail (e : Int) (p : Nat) : List PanicEntry := [{ v := .iface 107 (.agg #[.int .i64 e, .int .i64 (p : Int)]), recovered := false }]
structure St (w0 w : World) (s : Nat) (t : List UInt8) (a : Nat) (ts : List Tok) : Prop where
 keep : Keep [s] w0 w
 lt : s < w0.heap.size
 len : t.length ≤ 6000
 loc : a ≤ t.length
 cnt : ts.length ≤ 2000
 blk : ∃ tv, Blk w s 111 [AM t, .int .i64 (a : Int), tv] ∧ w.ownsRow w0.heap.size 158 3 tv ts.length (toksC ts)
def Aw (p : UInt8 → Bool) (t : List UInt8) (a : Nat) : Nat := a + ((t.drop a).takeWhile p).length
theorem whileB_step {p : UInt8 → Bool} {t : List UInt8} {a : Nat} {c : UInt8} (h : t[a]? = some c) (hp : p c = true) : Aw p t a = Aw p t (a + 1) := by
 obtain ⟨h1, h2⟩ := List.getElem?_eq_some_iff.1 h
 unfold Aw
 rw [List.drop_eq_getElem_cons h1, h2, List.takeWhile_cons_of_pos hp]
 simp; omega
theorem whileB_stop {p : UInt8 → Bool} {t : List UInt8} {a : Nat} {c : UInt8} (h : t[a]? = some c) (hp : p c = false) : Aw p t a = a := by
 obtain ⟨h1, h2⟩ := List.getElem?_eq_some_iff.1 h
 unfold Aw
 rw [List.drop_eq_getElem_cons h1, h2, List.takeWhile_cons_of_neg (by simp [hp])]
 simp
theorem whileB_end {p : UInt8 → Bool} {t : List UInt8} {a : Nat} (h : t.length ≤ a) : Aw p t a = a := by
 unfold Aw
 rw [List.drop_eq_nil_of_le h]; simp
theorem whileB_le {p : UInt8 → Bool} {t : List UInt8} {a : Nat} (h : a ≤ t.length) : Aw p t a ≤ t.length := by
 have := (List.takeWhile_prefix p (l := t.drop a)).length_le
 simp at this
 unfold Aw; omega
theorem whileB_ge (p : UInt8 → Bool) (t : List UInt8) (a : Nat) : a ≤ Aw p t a := by unfold Aw; omega
theorem while_ok {g : FuncId} {p : UInt8 → Bool} [AR Tryz.prog g] (hg : Test g p) (w : World) (s a : Nat) (t : List UInt8) (x y : Value) (hb : Blk w s 111 [AM t, x, y]) (ha : a ≤ t.length) (hl : t.length ≤ 6000) :
  Fn Tryz.prog 145 [pt s, .int .i64 (a : Int), .func (.func g) #[] #[]] w fun v w' => v = .int .i64 (Aw p t a : Int) ∧ w' = w := by
 refine Ac Tryz.func145 rfl Tryz.ntmps145 (Nat.le_of_ble_eq_true rfl) (by kernel_rfl) ?_
 repeat' first | refine nx rfl ?_ | fail
 refine AA (AC (AI rfl ?_))
 repeat' first | refine nx rfl ?_ | fail
 refine BC (α := Nat) (fun k => [(0, pt s), (1, .int .i64 (k : Int)), (2, .func (.func g) #[] #[])]) (fun k w1 => k ≤ t.length ∧ Aw p t k = Aw p t a ∧ w1 = w) (fun k => t.length - k) a ⟨rfl, rfl, rfl, trivial⟩ ⟨ha, rfl, rfl⟩ ?_
 rintro k w1 f' ⟨hk, hw, rfl⟩
 repeat' first | refine nx rfl ?_ | fail
 by_cases hlt : k < t.length
 ·have hct : t[k]? = some t[k] := List.getElem?_eq_getElem hlt
  generalize t[k] = c at hct
  (refine AA (AI rfl (AO rfl (AH rfl (AD rfl ?_)))) <;> refine AG rfl (Blk.cell (by assumption) (by rfl)) ?_ <;> refine A9 rfl ?_ <;> (refine As rfl rfl (fun hc => ?_) (fun hc => ?_) <;> try omega) <;> refine AB rfl (AF rfl ?_) <;> refine CO rfl ?_ <;> refine AF rfl (AO rfl (AF rfl (AH rfl (AF rfl (AD rfl ?_))))) <;> (refine AF rfl ?_; refine AG rfl (Blk.cell (by assumption) (by rfl)) ?_) <;> refine AF rfl (AI rfl (AF rfl ?_)) <;> refine BK rfl rfl (by assumption) ?_)
  refine AF rfl ?_
  refine Bk (v1 := []) (v2 := []) (vs := [enc8 c]) rfl (hg c _) rfl ?_
  rintro v w' ⟨rfl, rfl⟩
  cases hp : p c with
  | true =>
   ((refine AL rfl ?_; refine AB rfl ?_))
   repeat' first | refine nx rfl ?_ | fail
   (refine AA (AI rfl ?_) <;> refine BB rfl rfl (by first | exact Ak (by omega) (by omega) | exact Ar (by omega) (by omega) | exact Aj (by omega) (by omega)) ?_ <;> refine AC (AI rfl ?_))
   repeat' first | refine nx rfl ?_ | fail
   refine ⟨k + 1, ⟨rfl, ⟨rfl, ?_, rfl, trivial⟩, ⟨by omega, (whileB_step hct hp).symm.trans hw, rfl⟩⟩, by omega⟩
   show Value.int .i64 ((k : Int) + 1) = _
   rw [Int.natCast_add]; rfl
  | false =>
   ((refine AL rfl ?_; refine AB rfl ?_))
   repeat' first | refine nx rfl ?_ | refine nf rfl ?_
   refine AA (AI rfl (AC (AI rfl ?_)))
   repeat' first | refine nx rfl ?_ | fail
   exact AP rfl ⟨by rw [← hw, whileB_stop hct hp]; rfl, rfl⟩
 ·(refine AA (AI rfl (AO rfl (AH rfl (AD rfl ?_)))) <;> refine AG rfl (Blk.cell (by assumption) (by rfl)) ?_ <;> refine A9 rfl ?_ <;> (refine As rfl rfl (fun hc => ?_) (fun hc => ?_) <;> try omega) <;> refine AB rfl (AJ rfl (AJ rfl (AJ rfl (AJ rfl (AJ rfl (AJ rfl (AJ rfl ?_))))))))
  refine AJ rfl (AQ rfl (AB rfl ?_))
  repeat' first | refine nx rfl ?_ | refine nf rfl ?_
  refine AA (AI rfl (AC (AI rfl ?_)))
  repeat' first | refine nx rfl ?_ | fail
  exact AP rfl ⟨by rw [← hw, whileB_end (by omega)]; rfl, rfl⟩
theorem BW {w : World} {B e size n g : Nat} {v : Value} {xs : List Value} (h : w.ownsRow B e size v n xs) (hg : v.ownBlock = some g) : B ≤ g ∧ g < w.heap.size := by
 rcases h.2 with ⟨rfl, _⟩ | ⟨b, cap, cur, rfl, h1, h2, _⟩
 ·cases hg
 ·cases hg; exact ⟨h1, (Array.getElem?_eq_some_iff.1 h2).1⟩
theorem made_tok : (madeCells (Value.agg #[.int .i64 0, AM [], .int .i64 0]).cells (1 * 3)).toList = [.int .i64 0, AM [], .int .i64 0] := by
 kernel_rfl
theorem add_ok (w0 w : World) (s a n : Nat) (t : List UInt8) (ts : List Tok) (k : Int) (h : St w0 w s t a ts) (h1 : a ≤ n) (h2 : n ≤ t.length) :
  FnP Tryz.prog 150 [pt s, .int .i64 k, .int .i64 (n : Int)] w (fun v w' => v = .tuple #[] ∧ ts.length < 2000 ∧ St w0 w' s t n (ts ++ [⟨k, (t.take n).drop a, a⟩])) (fun ch w' => ts.length = 2000 ∧ ch = fail 2 a ∧ Keep [s] w0 w') := by
 obtain ⟨hk, hs, hl, ha, hn, tv, hb, ho⟩ := h
 obtain ⟨tp, tc, rfl⟩ : ∃ tp tc, tv = .slice tp ts.length tc := by
  rcases ho.2 with ⟨rfl, h0⟩ | ⟨g, cap, cur, rfl, _⟩
  ·exact ⟨none, 0, by rw [h0]⟩
  ·exact ⟨_, _, rfl⟩
 refine Ao Tryz.func150 rfl Tryz.ntmps150 (Nat.le_of_ble_eq_true rfl) (by kernel_rfl) ?_
 repeat' first | refine nx rfl ?_ | fail
 (refine AA (AO rfl (AH rfl (AD rfl ?_))) <;> refine AG rfl (Blk.cell (by assumption) (by rfl)) ?_ <;> refine Aq rfl ?_ <;> (refine AK rfl rfl (fun hc => ?_) (fun hc => ?_) <;> try omega))
 ·repeat' first | refine nx rfl ?_ | fail
  (refine AA (AO rfl (AH rfl (AD rfl ?_))) <;> refine AG rfl (Blk.cell (by assumption) (by rfl)) ?_ <;> refine Ae (by rfl) (by rfl) ?_ <;> refine Cd (Ch rfl ?_))
  repeat' first | refine nx rfl ?_ | fail
  exact AX ⟨by omega, rfl, hk⟩
 ·repeat' first | refine nx rfl ?_ | refine nf rfl ?_
  refine BQ (.read 0 (.read 1 (.read 2 (.read 3 (.read 5 (.read 6 (.read 7 (.read 8 (.read 9 (.read 10 (.read 11 (.read 12 (.read 13 (.read 14 (.read 15 (.read 16 (.read 17 (.read 18 (.read 19 (.read 20 (.alt 4 (.alt 21 (.alt 22 (.read 23 (.read 24 (.alt 25 .done .stop))) .stop) .stop) (.alt 21 (.alt 4 (.alt 22 (.read 23 (.read 24 (.alt 25 .done .stop))) .stop) .stop) .stop)))))))))))))))))))))) BE (by kernel_rfl) (fun wd kd ed => ⟨fun W => W.cell? ⟨s, 0, none⟩ = some (AM t) ∧ W.cell? ⟨s, 1, none⟩ = some (.int .i64 (a : Int)), ?_, ?_⟩)
  ·exact ⟨(hb.keep kd (by simp)).cell rfl, (hb.keep kd (by simp)).cell rfl⟩
  have hbd := hb.keep kd (by simp)
  have hod := Br ho kd
  have fc0 : ∀ W : World, (W.cell? ⟨s, 0, none⟩ = some (AM t) ∧ W.cell? ⟨s, 1, none⟩ = some (.int .i64 (a : Int))) → W.cell? ⟨s, 0, none⟩ = some (AM t) := fun W h => h.1
  have fc1 : ∀ W : World, (W.cell? ⟨s, 0, none⟩ = some (AM t) ∧ W.cell? ⟨s, 1, none⟩ = some (.int .i64 (a : Int))) → W.cell? ⟨s, 1, none⟩ = some (.int .i64 (a : Int)) := fun W h => h.2
  ((apply D_R rfl rfl; (intro W hW; refine AO rfl ?_; exact AE ⟨rfl, rfl, rfl⟩)) <;> (apply D_R rfl rfl; (intro W hW; refine AO rfl ?_; exact AE ⟨rfl, rfl, rfl⟩)) <;> (apply D_R rfl rfl; (intro W hW; refine AH rfl ?_; exact AE ⟨rfl, rfl, rfl⟩)) <;> (apply D_R rfl rfl; (intro W hW; refine AD rfl ?_; exact AE ⟨rfl, rfl, rfl⟩)) <;> (apply D_R rfl rfl; (intro W hW; refine AI rfl ?_; exact AE ⟨rfl, rfl, rfl⟩)) <;> (apply D_R rfl rfl; (intro W hW; refine AO rfl ?_; exact AE ⟨rfl, rfl, rfl⟩)) <;> (apply D_R rfl rfl; (intro W hW; refine AH rfl ?_; exact AE ⟨rfl, rfl, rfl⟩)) <;> (apply D_R rfl rfl; (intro W hW; refine AD rfl ?_; exact AE ⟨rfl, rfl, rfl⟩)) <;> (apply D_R rfl rfl; (intro W hW; refine AG rfl (fc0 W hW) ?_; exact AE ⟨rfl, rfl, rfl⟩)) <;> (apply D_R rfl rfl; (intro W hW; refine AO rfl ?_; exact AE ⟨rfl, rfl, rfl⟩)) <;> (apply D_R rfl rfl; (intro W hW; refine AH rfl ?_; exact AE ⟨rfl, rfl, rfl⟩)) <;> (apply D_R rfl rfl; (intro W hW; refine AD rfl ?_; exact AE ⟨rfl, rfl, rfl⟩)) <;> (apply D_R rfl rfl; (intro W hW; refine AG rfl (fc1 W hW) ?_; exact AE ⟨rfl, rfl, rfl⟩)) <;> (apply D_R rfl rfl; (intro W hW; refine AI rfl ?_; exact AE ⟨rfl, rfl, rfl⟩)) <;> (apply D_R rfl rfl; (intro W hW; refine W_sslice_lh rfl rfl rfl (by omega) (by omega) ?_; exact AE ⟨rfl, rfl, rfl⟩)) <;> (apply D_R rfl rfl; (intro W hW; refine AO rfl ?_; exact AE ⟨rfl, rfl, rfl⟩)) <;> (apply D_R rfl rfl; (intro W hW; refine AH rfl ?_; exact AE ⟨rfl, rfl, rfl⟩)) <;> (apply D_R rfl rfl; (intro W hW; refine AD rfl ?_; exact AE ⟨rfl, rfl, rfl⟩)) <;> (apply D_R rfl rfl; (intro W hW; refine AG rfl (fc1 W hW) ?_; exact AE ⟨rfl, rfl, rfl⟩)) <;> (apply D_R rfl rfl; (intro W hW; refine Ae (by rfl) (by rfl) ?_; exact AE ⟨rfl, rfl, rfl⟩)))
  have hcs : tokC ⟨k, (t.take n).drop a, a⟩ = [.int .i64 k, AM ((t.take n).drop a), .int .i64 (a : Int)] := rfl
  refine D_A rfl ?_ (D_E rfl ?_)
  ·refine AG rfl (hbd.cell rfl) ?_
   refine AE ⟨_, fun _ h => h, ⟨hbd.cell rfl, hbd.cell rfl⟩, ?_⟩
   refine D_E rfl ?_
   refine AT (out := tokC ⟨k, (t.take n).drop a, a⟩) rfl (by omega) (by rw [made_tok]; rfl) (fun w2 n2 => ?_)
   have o2 := n2.own (n := 1) (size := 3) rfl (by unfold maxLen; omega) (Nat.le_refl _)
   have s2 := n2.size
   have hbd2 := hbd.keep n2.keep (by simp)
   refine AE ⟨_, fun _ h => h, ⟨hbd2.cell rfl, hbd2.cell rfl⟩, ?_⟩
   refine D_E rfl ?_
   refine B9 (ok := A2) rfl rfl (Br hod n2.keep) (A8 o2 fun _ _ => trivial) (by omega) rfl rfl (by intro y hy; simp [tokC] at hy; rcases hy with rfl | rfl | rfl <;> rfl) (by omega) (by omega) (by have := hk.size; have := kd.size; omega) (fun v3 w3 a3 => ?_)
   have hown : ∀ x ∈ (Value.slice tp ts.length tc).ownBlock.toList, w0.heap.size ≤ x := fun x hx => (BW ho (by simpa using hx)).1
   have hns : s ∉ (Value.slice tp ts.length tc).ownBlock.toList := fun hx => by have := hown s hx; omega
   have hb3 := (hbd.keep n2.keep (by simp)).keep a3.keep hns
   have k3 : Keep [s] w0 w3 := ((hk.ext kd).ext n2.keep).trans a3.keep fun x hx hlt => absurd (hown x hx) (by omega)
   refine AE ⟨_, fun _ h => h, ⟨hb3.cell rfl, hb3.cell rfl⟩, ?_⟩
   ((apply D_R rfl rfl; (intro W hW; refine AH rfl ?_; exact AE ⟨rfl, rfl, rfl⟩)) <;> (apply D_R rfl rfl; (intro W hW; refine AD rfl ?_; exact AE ⟨rfl, rfl, rfl⟩)))
   refine D_E rfl ?_
   have o3 := a3.own
   obtain ⟨vp, vc, rfl⟩ : ∃ vp vc, v3 = .slice vp (ts.length + 1) vc := by
    rcases o3.2 with ⟨rfl, h0⟩ | ⟨g, cap, cur, rfl, _⟩
    ·exact absurd h0 (by omega)
    ·exact ⟨_, _, rfl⟩
   refine Am rfl rfl rfl hb3 (by simp) (fun w4 p4 => ?_)
   have hb4 := p4.blk
   have hns3 : ∀ g, (Value.slice vp (ts.length + 1) vc).ownBlock = some g → g ∉ [s] := fun g hg => by have := (BW o3 hg).1; simp; omega
   have o4 := Ay o3 p4.keep hns3
   have k4 : Keep [s] w0 w4 := k3.trans p4.keep fun x hx _ => hx
   refine AE ⟨_, fun _ h => h, ⟨hb4.cell rfl, hb4.cell rfl⟩, ?_⟩
   refine A3 ?_
   repeat' first | refine nx rfl ?_ | fail
   refine AA (AO rfl (AI rfl (AH rfl (AD rfl ?_))))
   refine Am rfl rfl rfl hb4 (by simp) (fun w5 p5 => ?_)
   have hb5 := p5.blk
   have o5 := Ay o4 p5.keep hns3
   have k5 : Keep [s] w0 w5 := k4.trans p5.keep fun x hx _ => hx
   repeat' first | refine nx rfl ?_ | fail
   have o6 : w5.ownsRow w0.heap.size 158 3 (.slice vp (ts.length + 1) vc) (ts ++ [Tok.mk k ((t.take n).drop a) a]).length (toksC (ts ++ [Tok.mk k ((t.take n).drop a) a])) := by
    have e : toksC (ts ++ [Tok.mk k ((t.take n).drop a) a]) = toksC ts ++ tokC (Tok.mk k ((t.take n).drop a) a) := by simp [toksC]
    rw [e]; simpa using o5
   exact At rfl ⟨rfl, by omega, ⟨k5, hs, hl, h2, by simp; omega, _, hb5, o6⟩⟩
  ·refine AT (out := tokC ⟨k, (t.take n).drop a, a⟩) rfl (by omega) (by rw [made_tok]; rfl) (fun w2 n2 => ?_)
   have o2 := n2.own (n := 1) (size := 3) rfl (by unfold maxLen; omega) (Nat.le_refl _)
   have s2 := n2.size
   have hbd2 := hbd.keep n2.keep (by simp)
   refine AE ⟨_, fun _ h => h, ⟨hbd2.cell rfl, hbd2.cell rfl⟩, ?_⟩
   refine D_E rfl ?_
   refine AG rfl (hbd2.cell rfl) ?_
   refine AE ⟨_, fun _ h => h, ⟨hbd2.cell rfl, hbd2.cell rfl⟩, ?_⟩
   refine D_E rfl ?_
   refine B9 (ok := A2) rfl rfl (Br hod n2.keep) (A8 o2 fun _ _ => trivial) (by omega) rfl rfl (by intro y hy; simp [tokC] at hy; rcases hy with rfl | rfl | rfl <;> rfl) (by omega) (by omega) (by have := hk.size; have := kd.size; omega) (fun v3 w3 a3 => ?_)
   have hown : ∀ x ∈ (Value.slice tp ts.length tc).ownBlock.toList, w0.heap.size ≤ x := fun x hx => (BW ho (by simpa using hx)).1
   have hns : s ∉ (Value.slice tp ts.length tc).ownBlock.toList := fun hx => by have := hown s hx; omega
   have hb3 := (hbd.keep n2.keep (by simp)).keep a3.keep hns
   have k3 : Keep [s] w0 w3 := ((hk.ext kd).ext n2.keep).trans a3.keep fun x hx hlt => absurd (hown x hx) (by omega)
   refine AE ⟨_, fun _ h => h, ⟨hb3.cell rfl, hb3.cell rfl⟩, ?_⟩
   ((apply D_R rfl rfl; (intro W hW; refine AH rfl ?_; exact AE ⟨rfl, rfl, rfl⟩)) <;> (apply D_R rfl rfl; (intro W hW; refine AD rfl ?_; exact AE ⟨rfl, rfl, rfl⟩)))
   refine D_E rfl ?_
   have o3 := a3.own
   obtain ⟨vp, vc, rfl⟩ : ∃ vp vc, v3 = .slice vp (ts.length + 1) vc := by
    rcases o3.2 with ⟨rfl, h0⟩ | ⟨g, cap, cur, rfl, _⟩
    ·exact absurd h0 (by omega)
    ·exact ⟨_, _, rfl⟩
   refine Am rfl rfl rfl hb3 (by simp) (fun w4 p4 => ?_)
   have hb4 := p4.blk
   have hns3 : ∀ g, (Value.slice vp (ts.length + 1) vc).ownBlock = some g → g ∉ [s] := fun g hg => by have := (BW o3 hg).1; simp; omega
   have o4 := Ay o3 p4.keep hns3
   have k4 : Keep [s] w0 w4 := k3.trans p4.keep fun x hx _ => hx
   refine AE ⟨_, fun _ h => h, ⟨hb4.cell rfl, hb4.cell rfl⟩, ?_⟩
   refine A3 ?_
   repeat' first | refine nx rfl ?_ | fail
   refine AA (AO rfl (AI rfl (AH rfl (AD rfl ?_))))
   refine Am rfl rfl rfl hb4 (by simp) (fun w5 p5 => ?_)
   have hb5 := p5.blk
   have o5 := Ay o4 p5.keep hns3
   have k5 : Keep [s] w0 w5 := k4.trans p5.keep fun x hx _ => hx
   repeat' first | refine nx rfl ?_ | fail
   have o6 : w5.ownsRow w0.heap.size 158 3 (.slice vp (ts.length + 1) vc) (ts ++ [Tok.mk k ((t.take n).drop a) a]).length (toksC (ts ++ [Tok.mk k ((t.take n).drop a) a])) := by
    have e : toksC (ts ++ [Tok.mk k ((t.take n).drop a) a]) = toksC ts ++ tokC (Tok.mk k ((t.take n).drop a) a) := by simp [toksC]
    rw [e]; simpa using o5
   exact At rfl ⟨rfl, by omega, ⟨k5, hs, hl, h2, by simp; omega, _, hb5, o6⟩⟩
end Go.Proofs.YtfcgdbmoncnibaaGreatDoor
namespace Go.Proofs.YtfcgdbmoncnibaaGreatDoor
open Go.RowKit
set_option linter.unusedVariables false
variable {mk : Prop} [MK mk]
abbrev Res := Except (Int × Nat) (Nat × List Tok)
def FnS (g : FuncId) (args : List Value) (w w0 : World) (s : Nat) (t : List UInt8) (r : Res) : Prop :=
 FnP Tryz.prog g args w (fun v w' => v = .tuple #[] ∧ ∃ a ts, r = .ok (a, ts) ∧ St w0 w' s t a ts) (fun ch w' => ∃ e p, r = .error (e, p) ∧ ch = fail e p ∧ Keep [s] w0 w')
def addM (t : List UInt8) (a : Nat) (ts : List Tok) (k : Int) (n : Nat) : Res := if ts.length = 2000 then .error (2, a) else .ok (n, ts ++ [⟨k, (t.take n).drop a, a⟩])
theorem addS (w0 w : World) (s a n : Nat) (t : List UInt8) (ts : List Tok) (k : Int) (h : St w0 w s t a ts) (h1 : a ≤ n) (h2 : n ≤ t.length) : FnS 150 [pt s, .int .i64 k, .int .i64 (n : Int)] w w0 s t (addM t a ts k n) := by
 refine FnP.mono (add_ok w0 w s a n t ts k h h1 h2) ?_ ?_
 ·rintro v w' ⟨rfl, hl, h'⟩
  exact ⟨rfl, _, _, by unfold addM; rw [if_neg (by omega)], h'⟩
 ·rintro ch w' ⟨hl, rfl, h'⟩
  exact ⟨_, _, by unfold addM; rw [if_pos hl], rfl, h'⟩
def blankM (a : Nat) (ts : List Tok) : Res := .ok (a + 1, ts)
theorem blank_ok (w0 w : World) (s a : Nat) (t : List UInt8) (ts : List Tok) (h : St w0 w s t a ts) (h1 : a < t.length) : FnS 111 [pt s] w w0 s t (blankM a ts) := by
 obtain ⟨hk, hs, hl, ha, hn, tv, hb, ho⟩ := h
 refine Ao Tryz.func111 rfl Tryz.ntmps111 (Nat.le_of_ble_eq_true rfl) (by kernel_rfl) ?_
 repeat' first | refine nx rfl ?_ | fail
 (refine AA (AO rfl (AH rfl (AD rfl ?_))) <;> refine AG rfl (Blk.cell (by assumption) (by rfl)) ?_ <;> refine BB rfl rfl (by first | exact Ak (by omega) (by omega) | exact Ar (by omega) (by omega) | exact Aj (by omega) (by omega)) ?_ <;> refine AH rfl (AD rfl ?_))
 refine Am rfl rfl rfl hb (by simp) (fun w5 p5 => ?_)
 have hb5 := p5.blk
 have o5 := Ay ho p5.keep fun g hg => by have := (BW ho hg).1; simp; omega
 have k5 : Keep [s] w0 w5 := hk.trans p5.keep fun x hx _ => hx
 repeat' first | refine nx rfl ?_ | fail
 refine At rfl ⟨rfl, _, _, rfl, ⟨k5, hs, hl, by omega, hn, tv, ?_, o5⟩⟩
 have e : ((a : Int) + 1) = ((a + 1 : Nat) : Int) := by omega
 exact e ▸ hb5
def commM (t : List UInt8) (a : Nat) (ts : List Tok) : Res := .ok (Aw inComm t a, ts)
theorem comment_ok (w0 w : World) (s a : Nat) (t : List UInt8) (ts : List Tok) (h : St w0 w s t a ts) : FnS 112 [pt s] w w0 s t (commM t a ts) := by
 obtain ⟨hk, hs, hl, ha, hn, tv, hb, ho⟩ := h
 refine Ao Tryz.func112 rfl Tryz.ntmps112 (Nat.le_of_ble_eq_true rfl) (by kernel_rfl) ?_
 repeat' first | refine nx rfl ?_ | fail
 (refine AA (AO rfl (AO rfl (AO rfl (AH rfl (AD rfl ?_))))) <;> refine AG rfl (Blk.cell (by assumption) (by rfl)) ?_)
 refine AS (while_ok comm_ok w s a t _ _ hb ha hl) rfl ?_
 rintro v w' ⟨rfl, rfl⟩
 refine AH rfl (AD rfl ?_)
 refine Am rfl rfl rfl hb (by simp) (fun w5 p5 => ?_)
 have hb5 := p5.blk
 have o5 := Ay ho p5.keep fun g hg => by have := (BW ho hg).1; simp; omega
 have k5 : Keep [s] w0 w5 := hk.trans p5.keep fun x hx _ => hx
 repeat' first | refine nx rfl ?_ | fail
 exact At rfl ⟨rfl, _, _, rfl, ⟨k5, hs, hl, whileB_le ha, hn, tv, hb5, o5⟩⟩
def nameM (t : List UInt8) (a : Nat) (ts : List Tok) : Res := if 20 < Aw CP t (a + 1) - a then .error (40, a) else addM t a ts 1 (Aw CP t (a + 1))
theorem scanName_ok (w0 w : World) (s a : Nat) (t : List UInt8) (ts : List Tok) (h : St w0 w s t a ts) (h1 : a < t.length) : FnS 113 [pt s] w w0 s t (nameM t a ts) := by
 obtain ⟨hk, hs, hl, ha, hn, tv, hb, ho⟩ := id h
 have hge := whileB_ge CP t (a + 1)
 have hle := whileB_le (p := CP) (t := t) (a := a + 1) (by omega)
 refine Ao Tryz.func113 rfl Tryz.ntmps113 (Nat.le_of_ble_eq_true rfl) (by kernel_rfl) ?_
 repeat' first | refine nx rfl ?_ | fail
 (refine AA (AO rfl (AO rfl (AH rfl (AD rfl ?_)))) <;> refine AG rfl (Blk.cell (by assumption) (by rfl)) ?_ <;> refine BB rfl rfl (by first | exact Ak (by omega) (by omega) | exact Ar (by omega) (by omega) | exact Aj (by omega) (by omega)) ?_)
 refine AS (while_ok name_ok w s (a + 1) t _ _ hb (by omega) hl) (by rw [Int.natCast_add]; rfl) ?_
 rintro v w' ⟨rfl, rfl⟩
 ((refine AC ?_; refine AI rfl ?_))
 repeat' first | refine nx rfl ?_ | fail
 (refine AA (AI rfl (AO rfl (AH rfl (AD rfl ?_)))) <;> refine AG rfl (Blk.cell (by assumption) (by rfl)) ?_ <;> refine W_sub rfl rfl (by first | exact Ak (by omega) (by omega) | exact Ar (by omega) (by omega) | exact Aj (by omega) (by omega)) ?_ <;> (refine Bs rfl rfl (fun hc => ?_) (fun hc => ?_) <;> try omega))
 ·repeat' first | refine nx rfl ?_ | fail
  (refine AA (AO rfl (AH rfl (AD rfl ?_))) <;> refine AG rfl (Blk.cell (by assumption) (by rfl)) ?_ <;> refine Ae (by rfl) (by rfl) ?_ <;> refine Cd (Ch rfl ?_))
  repeat' first | refine nx rfl ?_ | fail
  exact AX ⟨_, _, by unfold nameM; rw [if_pos (by omega)], rfl, hk⟩
 ·repeat' first | refine nx rfl ?_ | refine nf rfl ?_
  refine AA (AO rfl (AI rfl ?_))
  have e : nameM t a ts = addM t a ts 1 (Aw CP t (a + 1)) := by unfold nameM; rw [if_neg (by omega)]
  rw [e]
  refine AZ (addS w0 w' s a _ t ts 1 h (by omega) hle) rfl ?_ ?_
  ·rintro v w2 ⟨rfl, hh⟩
   repeat' first | refine nx rfl ?_ | fail
   exact At rfl ⟨rfl, hh⟩
  ·intro ch w2 hh
   repeat' first | refine nx rfl ?_ | fail
   exact AX hh
end Go.Proofs.YtfcgdbmoncnibaaGreatDoor
namespace Go.Proofs.YtfcgdbmoncnibaaGreatDoor
open Go.RowKit
set_option linter.unusedVariables false
variable {mk : Prop} [MK mk]
def BU (t : List UInt8) (a : Nat) : Bool :=
 decide (4 < Aw A0 t a - a) || (decide (1 < Aw A0 t a - a) && decide ((t.getD a 0).toNat = 48)) ||
  (decide (Aw A0 t a < t.length) && (isLet (t.getD (Aw A0 t a) 0) || decide ((t.getD (Aw A0 t a) 0).toNat = 95)))
def numM (t : List UInt8) (a : Nat) (ts : List Tok) : Res := if BU t a = true then .error (40, a) else addM t a ts 2 (Aw A0 t a)
theorem getD_of {t : List UInt8} {a : Nat} {c : UInt8} (h : t[a]? = some c) : t.getD a 0 = c := by simp [List.getD_eq_getElem?_getD, h]
theorem St.ext {w0 w w' : World} {s a : Nat} {t : List UInt8} {ts : List Tok} (h : St w0 w s t a ts) (k : Ext w w') : St w0 w' s t a ts := by
 obtain ⟨hk, hs, hl, ha, hn, tv, hb, ho⟩ := h
 exact ⟨hk.ext k, hs, hl, ha, hn, tv, hb.keep k (by simp), Br ho k⟩
theorem scanNumber_ok (w0 w : World) (s a : Nat) (t : List UInt8) (ts : List Tok) (h : St w0 w s t a ts) (h1 : a < t.length) : FnS 114 [pt s] w w0 s t (numM t a ts) := by
 obtain ⟨hk, hs, hl, ha, hn, tv, hb, ho⟩ := id h
 have hge := whileB_ge A0 t a
 have hle := whileB_le (p := A0) (t := t) (a := a) (by omega)
 have hc0 : t[a]? = some t[a] := List.getElem?_eq_getElem h1
 generalize t[a] = c0 at hc0
 refine Ao Tryz.func114 rfl Tryz.ntmps114 (Nat.le_of_ble_eq_true rfl) (by kernel_rfl) ?_
 repeat' first | refine nx rfl ?_ | fail
 (refine AA (AO rfl (AO rfl (AH rfl (AD rfl ?_)))) <;> refine AG rfl (Blk.cell (by assumption) (by rfl)) ?_)
 refine AS (while_ok dig_ok w s a t _ _ hb (by omega) hl) rfl ?_
 rintro v w' ⟨rfl, rfl⟩
 ((refine AC ?_; refine AI rfl ?_))
 repeat' first | refine nx rfl ?_ | fail
 (refine AA (AI rfl (AO rfl (AH rfl (AD rfl ?_)))) <;> refine AG rfl (Blk.cell (by assumption) (by rfl)) ?_ <;> refine W_sub rfl rfl (by first | exact Ak (by omega) (by omega) | exact Ar (by omega) (by omega) | exact Aj (by omega) (by omega)) ?_ <;> refine AC (AI rfl ?_))
 repeat' first | refine nx rfl ?_ | fail
 refine BQ (.read 0 (.read 1 (.read 2 (.read 3 (.read 4 (.read 5 (.read 6 (.read 7 (.read 8 (.read 9 (.read 10 (.read 11 (.read 12 (.read 13 (.read 14 (.read 15 (.read 16 (.read 17 .done)))))))))))))))))) BE (by kernel_rfl) (fun wd kd ed => ⟨fun W => W = wd, ?_, ?_⟩)
 ·rfl
 have hbd := hb.keep kd (by simp)
 have hs2 := h.ext kd
 by_cases b1 : 4 < Aw A0 t a - a
 ·((apply D_R rfl rfl; (intro W hW; subst hW; refine AI rfl ?_; exact AE ⟨rfl, rfl, rfl⟩)) <;> (refine D_gtr rfl rfl rfl rfl (fun hc => ?_) (fun hc => ?_) <;> try omega) <;> (apply D_R rfl rfl; (intro W hW; subst hW; refine AB rfl ?_; exact AE ⟨rfl, rfl, rfl⟩)) <;> refine Aa rfl rfl rfl rfl (Aa rfl rfl rfl rfl (Aa rfl rfl rfl rfl ?_)) <;> (apply D_R rfl rfl; (intro W hW; refine AJ rfl ?_; exact AE ⟨rfl, rfl, rfl⟩)) <;> (apply D_R rfl rfl; (intro W hW; refine AJ rfl ?_; exact AE ⟨rfl, rfl, rfl⟩)) <;> (apply D_R rfl rfl; (intro W hW; refine AJ rfl ?_; exact AE ⟨rfl, rfl, rfl⟩)) <;> (apply D_R rfl rfl; (intro W hW; refine AJ rfl ?_; exact AE ⟨rfl, rfl, rfl⟩)) <;> (apply D_R rfl rfl; (intro W hW; refine AJ rfl ?_; exact AE ⟨rfl, rfl, rfl⟩)) <;> (apply D_R rfl rfl; (intro W hW; refine AJ rfl ?_; exact AE ⟨rfl, rfl, rfl⟩)) <;> (apply D_R rfl rfl; (intro W hW; refine AJ rfl ?_; exact AE ⟨rfl, rfl, rfl⟩)) <;> (apply D_R rfl rfl; (intro W hW; refine AJ rfl ?_; exact AE ⟨rfl, rfl, rfl⟩)) <;> (apply D_R rfl rfl; (intro W hW; refine AJ rfl ?_; exact AE ⟨rfl, rfl, rfl⟩)) <;> (apply D_R rfl rfl; (intro W hW; refine AJ rfl ?_; exact AE ⟨rfl, rfl, rfl⟩)) <;> refine Aa rfl rfl rfl rfl ?_ <;> (apply D_R rfl rfl; (intro W hW; subst hW; (refine AL rfl ?_; refine AB rfl ?_); exact AE ⟨rfl, rfl, rfl⟩)) <;> refine A3 ?_)
  have hbad : BU t a = true := by unfold BU; simp [b1]
  repeat' first | refine nx rfl ?_ | fail
  (refine AA (AO rfl (AH rfl (AD rfl ?_))) <;> refine AG rfl (Blk.cell (by assumption) (by rfl)) ?_ <;> refine Ae (by rfl) (by rfl) ?_ <;> refine Cd (Ch rfl ?_))
  repeat' first | refine nx rfl ?_ | fail
  exact AX ⟨_, _, by unfold numM; rw [if_pos hbad], rfl, hs2.keep⟩
 ·by_cases b2 : 1 < Aw A0 t a - a
  ·by_cases b3 : c0.toNat = 48
   ·((apply D_R rfl rfl; (intro W hW; subst hW; refine AI rfl ?_; exact AE ⟨rfl, rfl, rfl⟩)) <;> (refine D_gtr rfl rfl rfl rfl (fun hc => ?_) (fun hc => ?_) <;> try omega) <;> (apply D_R rfl rfl; (intro W hW; subst hW; refine AB rfl ?_; exact AE ⟨rfl, rfl, rfl⟩)) <;> (apply D_R rfl rfl; (intro W hW; subst hW; (refine AF rfl ?_; refine AI rfl ?_); exact AE ⟨rfl, rfl, rfl⟩)) <;> (refine D_gtr rfl rfl rfl rfl (fun hc => ?_) (fun hc => ?_) <;> try omega) <;> (apply D_R rfl rfl; (intro W hW; subst hW; (refine AF rfl ?_; refine AB rfl ?_); exact AE ⟨rfl, rfl, rfl⟩)) <;> (apply D_R rfl rfl; (intro W hW; subst hW; (refine AF rfl ?_; refine AO rfl ?_); exact AE ⟨rfl, rfl, rfl⟩)) <;> (apply D_R rfl rfl; (intro W hW; subst hW; (refine AF rfl ?_; refine AH rfl ?_); exact AE ⟨rfl, rfl, rfl⟩)) <;> (apply D_R rfl rfl; (intro W hW; subst hW; (refine AF rfl ?_; refine AD rfl ?_); exact AE ⟨rfl, rfl, rfl⟩)) <;> (apply D_R rfl rfl; (intro W hW; subst hW; (refine AF rfl ?_; refine AG rfl (Blk.cell (by assumption) (by rfl)) ?_); exact AE ⟨rfl, rfl, rfl⟩)) <;> (apply D_R rfl rfl; (intro W hW; subst hW; (refine AF rfl ?_; refine AO rfl ?_); exact AE ⟨rfl, rfl, rfl⟩)) <;> (apply D_R rfl rfl; (intro W hW; subst hW; (refine AF rfl ?_; refine AH rfl ?_); exact AE ⟨rfl, rfl, rfl⟩)) <;> (apply D_R rfl rfl; (intro W hW; subst hW; (refine AF rfl ?_; refine AD rfl ?_); exact AE ⟨rfl, rfl, rfl⟩)) <;> (apply D_R rfl rfl; (intro W hW; subst hW; (refine AF rfl ?_; refine AG rfl (Blk.cell (by assumption) (by rfl)) ?_); exact AE ⟨rfl, rfl, rfl⟩)) <;> (apply D_R rfl rfl; (intro W hW; subst hW; (refine AF rfl ?_; refine BK rfl rfl (by assumption) ?_); exact AE ⟨rfl, rfl, rfl⟩)) <;> (refine D_eql rfl rfl rfl rfl (fun hc => ?_) (fun hc => ?_) <;> try omega) <;> (apply D_R rfl rfl; (intro W hW; subst hW; (refine AF rfl ?_; (refine AL rfl ?_; refine AB rfl ?_)); exact AE ⟨rfl, rfl, rfl⟩)) <;> (apply D_R rfl rfl; (intro W hW; subst hW; (refine AQ rfl ?_; refine AB rfl ?_); exact AE ⟨rfl, rfl, rfl⟩)) <;> refine A3 ?_)
    have hbad : BU t a = true := by unfold BU; rw [getD_of hc0]; simp [b2, b3]
    repeat' first | refine nx rfl ?_ | fail
    (refine AA (AO rfl (AH rfl (AD rfl ?_))) <;> refine AG rfl (Blk.cell (by assumption) (by rfl)) ?_ <;> refine Ae (by rfl) (by rfl) ?_ <;> refine Cd (Ch rfl ?_))
    repeat' first | refine nx rfl ?_ | fail
    exact AX ⟨_, _, by unfold numM; rw [if_pos hbad], rfl, hs2.keep⟩
   ·have hb2 : (decide (1 < Aw A0 t a - a) && decide ((t.getD a 0).toNat = 48)) = false := by rw [getD_of hc0]; simp [b3]
    ((apply D_R rfl rfl; (intro W hW; subst hW; refine AI rfl ?_; exact AE ⟨rfl, rfl, rfl⟩)) <;> (refine D_gtr rfl rfl rfl rfl (fun hc => ?_) (fun hc => ?_) <;> try omega) <;> (apply D_R rfl rfl; (intro W hW; subst hW; refine AB rfl ?_; exact AE ⟨rfl, rfl, rfl⟩)) <;> (apply D_R rfl rfl; (intro W hW; subst hW; (refine AF rfl ?_; refine AI rfl ?_); exact AE ⟨rfl, rfl, rfl⟩)) <;> (refine D_gtr rfl rfl rfl rfl (fun hc => ?_) (fun hc => ?_) <;> try omega) <;> (apply D_R rfl rfl; (intro W hW; subst hW; (refine AF rfl ?_; refine AB rfl ?_); exact AE ⟨rfl, rfl, rfl⟩)) <;> (apply D_R rfl rfl; (intro W hW; subst hW; (refine AF rfl ?_; refine AO rfl ?_); exact AE ⟨rfl, rfl, rfl⟩)) <;> (apply D_R rfl rfl; (intro W hW; subst hW; (refine AF rfl ?_; refine AH rfl ?_); exact AE ⟨rfl, rfl, rfl⟩)) <;> (apply D_R rfl rfl; (intro W hW; subst hW; (refine AF rfl ?_; refine AD rfl ?_); exact AE ⟨rfl, rfl, rfl⟩)) <;> (apply D_R rfl rfl; (intro W hW; subst hW; (refine AF rfl ?_; refine AG rfl (Blk.cell (by assumption) (by rfl)) ?_); exact AE ⟨rfl, rfl, rfl⟩)) <;> (apply D_R rfl rfl; (intro W hW; subst hW; (refine AF rfl ?_; refine AO rfl ?_); exact AE ⟨rfl, rfl, rfl⟩)) <;> (apply D_R rfl rfl; (intro W hW; subst hW; (refine AF rfl ?_; refine AH rfl ?_); exact AE ⟨rfl, rfl, rfl⟩)) <;> (apply D_R rfl rfl; (intro W hW; subst hW; (refine AF rfl ?_; refine AD rfl ?_); exact AE ⟨rfl, rfl, rfl⟩)) <;> (apply D_R rfl rfl; (intro W hW; subst hW; (refine AF rfl ?_; refine AG rfl (Blk.cell (by assumption) (by rfl)) ?_); exact AE ⟨rfl, rfl, rfl⟩)) <;> (apply D_R rfl rfl; (intro W hW; subst hW; (refine AF rfl ?_; refine BK rfl rfl (by assumption) ?_); exact AE ⟨rfl, rfl, rfl⟩)) <;> (refine D_eql rfl rfl rfl rfl (fun hc => ?_) (fun hc => ?_) <;> try omega) <;> (apply D_R rfl rfl; (intro W hW; subst hW; (refine AF rfl ?_; (refine AL rfl ?_; refine AB rfl ?_)); exact AE ⟨rfl, rfl, rfl⟩)) <;> (apply D_R rfl rfl; (intro W hW; subst hW; (refine AQ rfl ?_; refine AB rfl ?_); exact AE ⟨rfl, rfl, rfl⟩)) <;> refine A3 ?_)
    repeat' first | refine nx rfl ?_ | refine nf rfl ?_
    by_cases b4 : Aw A0 t a < t.length
    ·have hc1 : t[Aw A0 t a]? = some t[Aw A0 t a] := List.getElem?_eq_getElem b4
     generalize t[Aw A0 t a] = c1 at hc1
     have hg1 := getD_of hc1
     (refine AA (AI rfl (AO rfl (AH rfl (AD rfl ?_)))) <;> refine AG rfl (Blk.cell (by assumption) (by rfl)) ?_ <;> refine A9 rfl ?_ <;> (refine As rfl rfl (fun hc => ?_) (fun hc => ?_) <;> try omega) <;> refine AB rfl (AF rfl (AO rfl (AF rfl (AH rfl (AF rfl (AD rfl ?_)))))) <;> (refine AF rfl ?_; refine AG rfl (Blk.cell (by assumption) (by rfl)) ?_) <;> refine AF rfl (AI rfl (AF rfl ?_)) <;> refine BK rfl rfl (by assumption) ?_)
     refine AF rfl ?_
     refine AS (let_ok c1 _) rfl ?_
     rintro v w2 ⟨rfl, rfl⟩
     cases hlet : isLet c1 with
     | true =>
      have hbad : BU t a = true := by unfold BU; rw [hg1]; simp [b4, hlet]
      (refine AF rfl (AB rfl (AJ rfl (AJ rfl (AJ rfl (AJ rfl (AJ rfl (AJ rfl (AJ rfl ?_)))))))) <;> (refine AF rfl ?_; (refine AL rfl ?_; refine AB rfl ?_)) <;> refine AL rfl (AB rfl ?_))
      repeat' first | refine nx rfl ?_ | fail
      (refine AA (AO rfl (AH rfl (AD rfl ?_))) <;> refine AG rfl (Blk.cell (by assumption) (by rfl)) ?_ <;> refine Ae (by rfl) (by rfl) ?_ <;> refine Cd (Ch rfl ?_))
      repeat' first | refine nx rfl ?_ | fail
      exact AX ⟨_, _, by unfold numM; rw [if_pos hbad], rfl, hs2.keep⟩
     | false =>
      by_cases b5 : c1.toNat = 95
      ·have hbad : BU t a = true := by unfold BU; rw [hg1]; simp [b4, b5]
       (refine AF rfl (AB rfl (AF rfl (AO rfl (AF rfl (AH rfl (AF rfl (AD rfl ?_))))))) <;> (refine AF rfl ?_; refine AG rfl (Blk.cell (by assumption) (by rfl)) ?_) <;> refine AF rfl (AI rfl (AF rfl ?_)) <;> refine BK rfl rfl (by assumption) ?_ <;> (refine AF rfl ?_; (refine AK rfl rfl (fun hc => ?_) (fun hc => ?_) <;> try omega)) <;> (refine AF rfl ?_; (refine AQ rfl ?_; refine AB rfl ?_)) <;> refine AL rfl (AB rfl ?_))
       repeat' first | refine nx rfl ?_ | fail
       (refine AA (AO rfl (AH rfl (AD rfl ?_))) <;> refine AG rfl (Blk.cell (by assumption) (by rfl)) ?_ <;> refine Ae (by rfl) (by rfl) ?_ <;> refine Cd (Ch rfl ?_))
       repeat' first | refine nx rfl ?_ | fail
       exact AX ⟨_, _, by unfold numM; rw [if_pos hbad], rfl, hs2.keep⟩
      ·have hbad : BU t a = false := by
        unfold BU
        rw [hg1, hb2, hlet, decide_eq_false b1, decide_eq_false b5]
        simp
       (refine AF rfl (AB rfl (AF rfl (AO rfl (AF rfl (AH rfl (AF rfl (AD rfl ?_))))))) <;> (refine AF rfl ?_; refine AG rfl (Blk.cell (by assumption) (by rfl)) ?_) <;> refine AF rfl (AI rfl (AF rfl ?_)) <;> refine BK rfl rfl (by assumption) ?_ <;> (refine AF rfl ?_; (refine AK rfl rfl (fun hc => ?_) (fun hc => ?_) <;> try omega)) <;> (refine AF rfl ?_; (refine AQ rfl ?_; refine AB rfl ?_)) <;> refine AL rfl (AB rfl ?_))
       repeat' first | refine nx rfl ?_ | refine nf rfl ?_
       refine AA (AO rfl (AI rfl ?_))
       have e : numM t a ts = addM t a ts 2 (Aw A0 t a) := by unfold numM; rw [if_neg]; simp only [hbad]; simp
       rw [e]
       refine AZ (addS w0 _ s a _ t ts 2 hs2 (by omega) hle) rfl ?_ ?_
       ·rintro v w2 ⟨rfl, hh⟩
        repeat' first | refine nx rfl ?_ | fail
        exact At rfl ⟨rfl, hh⟩
       ·intro ch w2 hh
        repeat' first | refine nx rfl ?_ | fail
        exact AX hh
    ·have hbad : BU t a = false := by
      unfold BU
      rw [hb2, decide_eq_false b1, decide_eq_false b4]
      simp
     (refine AA (AI rfl (AO rfl (AH rfl (AD rfl ?_)))) <;> refine AG rfl (Blk.cell (by assumption) (by rfl)) ?_ <;> refine A9 rfl ?_ <;> (refine As rfl rfl (fun hc => ?_) (fun hc => ?_) <;> try omega) <;> refine AB rfl (AJ rfl (AJ rfl (AJ rfl (AJ rfl (AJ rfl (AJ rfl ?_)))))))
     refine AJ rfl (AJ rfl (AJ rfl (AJ rfl (AJ rfl (AJ rfl (AJ rfl (AJ rfl (AJ rfl (AJ rfl (AQ rfl (AB rfl ?_)))))))))))
     repeat' first | refine nx rfl ?_ | refine nf rfl ?_
     refine AA (AO rfl (AI rfl ?_))
     have e : numM t a ts = addM t a ts 2 (Aw A0 t a) := by unfold numM; rw [if_neg]; simp only [hbad]; simp
     rw [e]
     refine AZ (addS w0 _ s a _ t ts 2 hs2 (by omega) hle) rfl ?_ ?_
     ·rintro v w2 ⟨rfl, hh⟩
      repeat' first | refine nx rfl ?_ | fail
      exact At rfl ⟨rfl, hh⟩
     ·intro ch w2 hh
      repeat' first | refine nx rfl ?_ | fail
      exact AX hh
  ·have hb2 : (decide (1 < Aw A0 t a - a) && decide ((t.getD a 0).toNat = 48)) = false := by simp [b2]
   ((apply D_R rfl rfl; (intro W hW; subst hW; refine AI rfl ?_; exact AE ⟨rfl, rfl, rfl⟩)) <;> (refine D_gtr rfl rfl rfl rfl (fun hc => ?_) (fun hc => ?_) <;> try omega) <;> (apply D_R rfl rfl; (intro W hW; subst hW; refine AB rfl ?_; exact AE ⟨rfl, rfl, rfl⟩)) <;> (apply D_R rfl rfl; (intro W hW; subst hW; (refine AF rfl ?_; refine AI rfl ?_); exact AE ⟨rfl, rfl, rfl⟩)) <;> (refine D_gtr rfl rfl rfl rfl (fun hc => ?_) (fun hc => ?_) <;> try omega) <;> (apply D_R rfl rfl; (intro W hW; subst hW; (refine AF rfl ?_; refine AB rfl ?_); exact AE ⟨rfl, rfl, rfl⟩)) <;> refine Aa rfl rfl rfl rfl (Aa rfl rfl rfl rfl (Aa rfl rfl rfl rfl (Aa rfl rfl rfl rfl (Aa rfl rfl rfl rfl (Aa rfl rfl rfl rfl (Aa rfl rfl rfl rfl (Aa rfl rfl rfl rfl (Aa rfl rfl rfl rfl (Aa rfl rfl rfl rfl ?_))))))))) <;> (apply D_R rfl rfl; (intro W hW; subst hW; (refine AF rfl ?_; (refine AQ rfl ?_; refine AB rfl ?_)); exact AE ⟨rfl, rfl, rfl⟩)) <;> (apply D_R rfl rfl; (intro W hW; subst hW; (refine AQ rfl ?_; refine AB rfl ?_); exact AE ⟨rfl, rfl, rfl⟩)) <;> refine A3 ?_)
   repeat' first | refine nx rfl ?_ | refine nf rfl ?_
   by_cases b4 : Aw A0 t a < t.length
   ·have hc1 : t[Aw A0 t a]? = some t[Aw A0 t a] := List.getElem?_eq_getElem b4
    generalize t[Aw A0 t a] = c1 at hc1
    have hg1 := getD_of hc1
    (refine AA (AI rfl (AO rfl (AH rfl (AD rfl ?_)))) <;> refine AG rfl (Blk.cell (by assumption) (by rfl)) ?_ <;> refine A9 rfl ?_ <;> (refine As rfl rfl (fun hc => ?_) (fun hc => ?_) <;> try omega) <;> refine AB rfl (AF rfl (AO rfl (AF rfl (AH rfl (AF rfl (AD rfl ?_)))))) <;> (refine AF rfl ?_; refine AG rfl (Blk.cell (by assumption) (by rfl)) ?_) <;> refine AF rfl (AI rfl (AF rfl ?_)) <;> refine BK rfl rfl (by assumption) ?_)
    refine AF rfl ?_
    refine AS (let_ok c1 _) rfl ?_
    rintro v w2 ⟨rfl, rfl⟩
    cases hlet : isLet c1 with
    | true =>
     have hbad : BU t a = true := by unfold BU; rw [hg1]; simp [b4, hlet]
     (refine AF rfl (AB rfl (AJ rfl (AJ rfl (AJ rfl (AJ rfl (AJ rfl (AJ rfl (AJ rfl ?_)))))))) <;> (refine AF rfl ?_; (refine AL rfl ?_; refine AB rfl ?_)) <;> refine AL rfl (AB rfl ?_))
     repeat' first | refine nx rfl ?_ | fail
     (refine AA (AO rfl (AH rfl (AD rfl ?_))) <;> refine AG rfl (Blk.cell (by assumption) (by rfl)) ?_ <;> refine Ae (by rfl) (by rfl) ?_ <;> refine Cd (Ch rfl ?_))
     repeat' first | refine nx rfl ?_ | fail
     exact AX ⟨_, _, by unfold numM; rw [if_pos hbad], rfl, hs2.keep⟩
    | false =>
     by_cases b5 : c1.toNat = 95
     ·have hbad : BU t a = true := by unfold BU; rw [hg1]; simp [b4, b5]
      (refine AF rfl (AB rfl (AF rfl (AO rfl (AF rfl (AH rfl (AF rfl (AD rfl ?_))))))) <;> (refine AF rfl ?_; refine AG rfl (Blk.cell (by assumption) (by rfl)) ?_) <;> refine AF rfl (AI rfl (AF rfl ?_)) <;> refine BK rfl rfl (by assumption) ?_ <;> (refine AF rfl ?_; (refine AK rfl rfl (fun hc => ?_) (fun hc => ?_) <;> try omega)) <;> (refine AF rfl ?_; (refine AQ rfl ?_; refine AB rfl ?_)) <;> refine AL rfl (AB rfl ?_))
      repeat' first | refine nx rfl ?_ | fail
      (refine AA (AO rfl (AH rfl (AD rfl ?_))) <;> refine AG rfl (Blk.cell (by assumption) (by rfl)) ?_ <;> refine Ae (by rfl) (by rfl) ?_ <;> refine Cd (Ch rfl ?_))
      repeat' first | refine nx rfl ?_ | fail
      exact AX ⟨_, _, by unfold numM; rw [if_pos hbad], rfl, hs2.keep⟩
     ·have hbad : BU t a = false := by
       unfold BU
       rw [hg1, hb2, hlet, decide_eq_false b1, decide_eq_false b5]
       simp
      (refine AF rfl (AB rfl (AF rfl (AO rfl (AF rfl (AH rfl (AF rfl (AD rfl ?_))))))) <;> (refine AF rfl ?_; refine AG rfl (Blk.cell (by assumption) (by rfl)) ?_) <;> refine AF rfl (AI rfl (AF rfl ?_)) <;> refine BK rfl rfl (by assumption) ?_ <;> (refine AF rfl ?_; (refine AK rfl rfl (fun hc => ?_) (fun hc => ?_) <;> try omega)) <;> (refine AF rfl ?_; (refine AQ rfl ?_; refine AB rfl ?_)) <;> refine AL rfl (AB rfl ?_))
      repeat' first | refine nx rfl ?_ | refine nf rfl ?_
      refine AA (AO rfl (AI rfl ?_))
      have e : numM t a ts = addM t a ts 2 (Aw A0 t a) := by unfold numM; rw [if_neg]; simp only [hbad]; simp
      rw [e]
      refine AZ (addS w0 _ s a _ t ts 2 hs2 (by omega) hle) rfl ?_ ?_
      ·rintro v w2 ⟨rfl, hh⟩
       repeat' first | refine nx rfl ?_ | fail
       exact At rfl ⟨rfl, hh⟩
      ·intro ch w2 hh
       repeat' first | refine nx rfl ?_ | fail
       exact AX hh
   ·have hbad : BU t a = false := by
     unfold BU
     rw [hb2, decide_eq_false b1, decide_eq_false b4]
     simp
    (refine AA (AI rfl (AO rfl (AH rfl (AD rfl ?_)))) <;> refine AG rfl (Blk.cell (by assumption) (by rfl)) ?_ <;> refine A9 rfl ?_ <;> (refine As rfl rfl (fun hc => ?_) (fun hc => ?_) <;> try omega) <;> refine AB rfl (AJ rfl (AJ rfl (AJ rfl (AJ rfl (AJ rfl (AJ rfl ?_)))))))
    refine AJ rfl (AJ rfl (AJ rfl (AJ rfl (AJ rfl (AJ rfl (AJ rfl (AJ rfl (AJ rfl (AJ rfl (AQ rfl (AB rfl ?_)))))))))))
    repeat' first | refine nx rfl ?_ | refine nf rfl ?_
    refine AA (AO rfl (AI rfl ?_))
    have e : numM t a ts = addM t a ts 2 (Aw A0 t a) := by unfold numM; rw [if_neg]; simp only [hbad]; simp
    rw [e]
    refine AZ (addS w0 _ s a _ t ts 2 hs2 (by omega) hle) rfl ?_ ?_
    ·rintro v w2 ⟨rfl, hh⟩
     repeat' first | refine nx rfl ?_ | fail
     exact At rfl ⟨rfl, hh⟩
    ·intro ch w2 hh
     repeat' first | refine nx rfl ?_ | fail
     exact AX hh
end Go.Proofs.YtfcgdbmoncnibaaGreatDoor
namespace Go.Proofs.YtfcgdbmoncnibaaGreatDoor
open Go.RowKit
set_option linter.unusedVariables false
variable {mk : Prop} [MK mk]
def symsL : List (List UInt8) := [[45, 62], [33, 61], [40], [41], [123], [125], [91], [93], [44], [59], [58], [61], [33], [38], [124]]
def spansL : List (Nat × Nat × Nat) := [(32, 32, 0), (9, 10, 0), (13, 13, 0), (37, 37, 1), (97, 122, 2), (65, 90, 2), (48, 57, 3), (40, 41, 4), (123, 125, 4), (91, 91, 4), (93, 93, 4), (44, 45, 4), (58, 59, 4), (61, 61, 4), (33, 33, 4), (38, 38, 4)]
def symC : List Value := symsL.map AM
def spanC1 (p : Nat × Nat × Nat) : List Value := [.int .u8 (p.1 : Int), .int .u8 (p.2.1 : Int), .int .i64 (p.2.2 : Int)]
def spanC : List Value := spansL.flatMap spanC1
structure GV (w : World) : Prop where
 spans : Cells w 0 0 spanC
 syms : Cells w 1 0 symC
 size : 10 ≤ w.heap.size
theorem GV.keep {X : List Nat} {w w' : World} (h : GV w) (k : Keep X w w') (h0 : 0 ∉ X) (h1 : 1 ∉ X) : GV w' := ⟨h.spans.keep k h0, h.syms.keep k h1, Nat.le_trans h.size k.size⟩
theorem GV.ext {w w' : World} (h : GV w) (k : Ext w w') : GV w' := h.keep k (by simp) (by simp)
def symM (t : List UInt8) (a : Nat) (ts : List Tok) : Res :=
 match symsL.find? (hasPre (t.drop a)) with
 | some y => addM t a ts 3 (a + y.length)
 | none => .error (40, a)
theorem find_step {α : Type} {p : α → Bool} {l : List α} {k : Nat} {y : α} (h : l[k]? = some y) : (l.drop k).find? p = if p y = true then some y else (l.drop (k + 1)).find? p := by
 obtain ⟨h1, h2⟩ := List.getElem?_eq_some_iff.1 h
 rw [List.drop_eq_getElem_cons h1, h2, List.find?_cons]
 cases p y <;> rfl
theorem symbol_ok (w0 w : World) (s a : Nat) (t : List UInt8) (ts : List Tok) (h : St w0 w s t a ts) (h1 : a < t.length) (hG : GV w0) (hs2 : 10 ≤ s) : FnS 115 [pt s] w w0 s t (symM t a ts) := by
 have hG' : GV w := hG.keep h.keep (by simp; omega) (by simp; omega)
 refine Ao Tryz.func115 rfl Tryz.ntmps115 (Nat.le_of_ble_eq_true rfl) (by kernel_rfl) ?_
 repeat' first | refine nx rfl ?_ | fail
 (refine AA ?_; refine AV rfl rfl hG'.syms ?_; refine AI rfl ?_; refine AE ?_)
 repeat' first | refine nx rfl ?_ | fail
 refine BC (α := Nat) (fun k => [(0, pt s), (4, .agg symC.toArray), (5, .int .i64 (k : Int))]) (fun k w1 => k ≤ 15 ∧ Ext w w1 ∧ symsL.find? (hasPre (t.drop a)) = (symsL.drop k).find? (hasPre (t.drop a))) (fun k => 15 - k) 0 ⟨rfl, rfl, rfl, trivial⟩ ⟨by omega, Ext.refl _, rfl⟩ ?_
 rintro k w1 f' ⟨hk, hw, hf⟩
 have h' := h.ext hw
 repeat' first | refine nx rfl ?_ | fail
 by_cases hlt : k < 15
 ·have hy : symsL[k]? = some symsL[k] := List.getElem?_eq_getElem hlt
  generalize symsL[k] = y at hy
  have hyc : symC[k]? = some (AM y) := by unfold symC; rw [List.getElem?_map, hy]; rfl
  rw [find_step hy] at hf
  (refine AA ?_ <;> (refine As rfl rfl (fun hc => ?_) (fun hc => ?_) <;> try omega))
  repeat' first | refine nx rfl ?_ | fail
  (refine AA ?_; refine W_vidx1 rfl rfl hlt hyc ?_; refine AC ?_; refine Ab rfl ?_; refine AE ?_)
  repeat' first | refine nx rfl ?_ | fail
  refine BQ (.read 0 (.read 1 (.read 2 (.read 3 (.read 4 (.read 5 (.read 6 (.read 7 (.read 8 (.read 9 (.alt 10 .done .stop))))))))))) BE (by kernel_rfl) (fun wd kd ed => ⟨fun W => W = wd, ?_, ?_⟩)
  ·rfl
  obtain ⟨hk0, hs, hl, ha, hn, tv, hb, ho⟩ := id h'
  have hbd := hb.keep kd (by simp)
  ((apply D_R rfl rfl; (intro W hW; subst hW; refine AO rfl ?_; exact AE ⟨rfl, rfl, rfl⟩)) <;> (apply D_R rfl rfl; (intro W hW; subst hW; refine AH rfl ?_; exact AE ⟨rfl, rfl, rfl⟩)) <;> (apply D_R rfl rfl; (intro W hW; subst hW; refine AD rfl ?_; exact AE ⟨rfl, rfl, rfl⟩)) <;> (apply D_R rfl rfl; (intro W hW; subst hW; refine AG rfl (Blk.cell (by assumption) (by rfl)) ?_; exact AE ⟨rfl, rfl, rfl⟩)) <;> (apply D_R rfl rfl; (intro W hW; subst hW; refine AO rfl ?_; exact AE ⟨rfl, rfl, rfl⟩)) <;> (apply D_R rfl rfl; (intro W hW; subst hW; refine AH rfl ?_; exact AE ⟨rfl, rfl, rfl⟩)) <;> (apply D_R rfl rfl; (intro W hW; subst hW; refine AD rfl ?_; exact AE ⟨rfl, rfl, rfl⟩)) <;> (apply D_R rfl rfl; (intro W hW; subst hW; refine AG rfl (Blk.cell (by assumption) (by rfl)) ?_; exact AE ⟨rfl, rfl, rfl⟩)) <;> (apply D_R rfl rfl; (intro W hW; subst hW; refine W_sslice_l rfl rfl (by omega) ?_; exact AE ⟨rfl, rfl, rfl⟩)) <;> (apply D_R rfl rfl; (intro W hW; subst hW; refine Ab rfl ?_; exact AE ⟨rfl, rfl, rfl⟩)))
  refine D_E rfl ?_
  refine AS (pre_ok _ _ _) rfl ?_
  rintro v w2 ⟨rfl, rfl⟩
  refine AE ⟨fun W => W = _, fun _ h => h, rfl, ?_⟩
  refine A3 ?_
  cases hp : hasPre (t.drop a) y with
  | true =>
   rw [hp, if_pos rfl] at hf
   have hpl := ((hasPre_iff _ _).1 hp).length_le
   simp at hpl
   repeat' first | refine nx rfl ?_ | fail
   (refine AA (AO rfl (AO rfl (AH rfl (AD rfl ?_)))) <;> refine AG rfl (Blk.cell (by assumption) (by rfl)) ?_ <;> refine Ab rfl (A9 rfl ?_) <;> refine BB rfl rfl (by first | exact Ak (by omega) (by omega) | exact Ar (by omega) (by omega) | exact Aj (by omega) (by omega)) ?_)
   have e : symM t a ts = addM t a ts 3 (a + y.length) := by unfold symM; rw [hf]
   rw [e]
   refine AZ (addS w0 _ s a (a + y.length) t ts 3 (h'.ext kd) (by omega) (by omega)) (by rw [Int.natCast_add]; rfl) ?_ ?_
   ·rintro v w2 ⟨rfl, hh⟩
    repeat' first | refine nx rfl ?_ | fail
    exact fin_ret0 rfl ⟨rfl, hh⟩
   ·intro ch w2 hh
    repeat' first | refine nx rfl ?_ | fail
    exact AX hh
  | false =>
   rw [hp, if_neg (by simp)] at hf
   repeat' first | refine nx rfl ?_ | refine nf rfl ?_
   (refine AA ?_ <;> refine BB rfl rfl (by first | exact Ak (by omega) (by omega) | exact Ar (by omega) (by omega) | exact Aj (by omega) (by omega)) ?_ <;> refine AI rfl ?_)
   repeat' first | refine nx rfl ?_ | fail
   refine ⟨k + 1, ⟨rfl, ⟨rfl, rfl, ?_, trivial⟩, ⟨by omega, hw.trans kd, hf⟩⟩, by omega⟩
   show Value.int .i64 ((k : Int) + 1) = _
   rw [Int.natCast_add]; rfl
 ·obtain ⟨hk0, hs, hl, ha, hn, tv, hb, ho⟩ := id h'
  (refine AA ?_ <;> (refine As rfl rfl (fun hc => ?_) (fun hc => ?_) <;> try omega))
  repeat' first | refine nx rfl ?_ | refine nf rfl ?_
  (refine AA (AO rfl (AH rfl (AD rfl ?_))) <;> refine AG rfl (Blk.cell (by assumption) (by rfl)) ?_ <;> refine Ae (by rfl) (by rfl) ?_ <;> refine Cd (Ch rfl ?_))
  repeat' first | refine nx rfl ?_ | fail
  refine AX ⟨_, _, ?_, rfl, hk0⟩
  unfold symM
  have hd : symsL.drop k = [] := List.drop_eq_nil_of_le (by show 15 ≤ k; omega)
  rw [hf, hd]
  rfl
end Go.Proofs.YtfcgdbmoncnibaaGreatDoor
namespace Go.Proofs.YtfcgdbmoncnibaaGreatDoor
open Go.RowKit
set_option linter.unusedVariables false
variable {mk : Prop} [MK mk]
def inSpan (c : UInt8) (p : Nat × Nat × Nat) : Bool := decide (p.1 ≤ c.toNat) && decide (c.toNat ≤ p.2.1)
def kindB (c : UInt8) : Option Nat := (spansL.find? (inSpan c)).map (·.2.2)
def Bo (t : List UInt8) (a : Nat) (ts : List Tok) : Res :=
 match kindB (t.getD a 0) with
 | some 0 => blankM a ts
 | some 1 => commM t a ts
 | some 2 => nameM t a ts
 | some 3 => numM t a ts
 | some _ => symM t a ts
 | none => .error (40, a)
def scanF (t : List UInt8) : Nat → Nat → List Tok → Res
 | 0, a, _ => .error (40, a)
 | n + 1, a, ts => if a < t.length then (match Bo t a ts with | .ok (a', ts') => scanF t n a' ts' | .error e => .error e) else .ok (a, ts)
def scanR (t : List UInt8) : Res := scanF t (t.length + 1) 0 []
theorem CV {t : List UInt8} {a n a' : Nat} {ts ts' : List Tok} {k : Int} (h : addM t a ts k n = .ok (a', ts')) : a' = n := by
 unfold addM at h
 split at h
 ·cases h
 ·cases h; rfl
theorem kindB_dig {c : UInt8} (h : kindB c = some 3) : A0 c = true := by
 unfold kindB at h
 obtain ⟨p, hp, hk⟩ := Option.map_eq_some_iff.1 h
 have h1 := List.find?_some hp
 have h2 := List.mem_of_find?_eq_some hp
 simp [spansL] at h2
 rcases h2 with rfl | rfl | rfl | rfl | rfl | rfl | rfl | rfl | rfl | rfl | rfl | rfl | rfl | rfl | rfl | rfl <;> simp at hk
 simpa [inSpan, A0] using h1
theorem kindB_comm {c : UInt8} (h : kindB c = some 1) : inComm c = true := by
 unfold kindB at h
 obtain ⟨p, hp, hk⟩ := Option.map_eq_some_iff.1 h
 have h1 := List.find?_some hp
 have h2 := List.mem_of_find?_eq_some hp
 simp [spansL] at h2
 rcases h2 with rfl | rfl | rfl | rfl | rfl | rfl | rfl | rfl | rfl | rfl | rfl | rfl | rfl | rfl | rfl | rfl <;> simp at hk
 simp [inSpan] at h1
 simp [inComm]; omega
theorem step_on {t : List UInt8} {a a' : Nat} {ts ts' : List Tok} (hl : a < t.length) (h : Bo t a ts = .ok (a', ts')) : a < a' := by
 have hc : t[a]? = some t[a] := List.getElem?_eq_getElem hl
 generalize t[a] = c at hc
 unfold Bo at h
 rw [getD_of hc] at h
 split at h
 ·cases h; omega
 ·cases h
  rw [whileB_step hc (kindB_comm (by assumption))]
  have := whileB_ge inComm t (a + 1); omega
 ·unfold nameM at h
  split at h
  ·cases h
  ·have := CV h; have := whileB_ge CP t (a + 1); omega
 ·unfold numM at h
  split at h
  ·cases h
  ·have := CV h
   rw [whileB_step hc (kindB_dig (by assumption))] at this
   have := whileB_ge A0 t (a + 1); omega
 ·unfold symM at h
  split at h
  ·rename_i y hy
   have h2 := List.mem_of_find?_eq_some hy
   have := CV h
   have hne : ∀ y ∈ symsL, 1 ≤ y.length := by decide
   have := hne y h2; omega
  ·cases h
 ·cases h
theorem spanC_at : ∀ (l : List (Nat × Nat × Nat)) (k : Nat) (p : Nat × Nat × Nat), l[k]? = some p → ((l.flatMap spanC1).drop (k * 3)).take 3 = spanC1 p
 | [], k, p, h => by simp at h
 | q :: l, 0, p, h => by simp at h; subst h; simp [spanC1]
 | q :: l, k + 1, p, h => by
  have := spanC_at l k p (by simpa using h)
  rw [← this, List.flatMap_cons, List.drop_append, List.drop_eq_nil_of_le (by simp [spanC1]; omega), List.nil_append]
  congr 2
  simp [spanC1]; omega
def fnC (s : Nat) : List Value := [.func (.func 111) #[pt s] #[], .func (.func 112) #[pt s] #[], .func (.func 113) #[pt s] #[], .func (.func 114) #[pt s] #[], .func (.func 115) #[pt s] #[]]
theorem scan_ok (w : World) (s : Nat) (t : List UInt8) (hb : Blk w s 111 [AM t, .int .i64 0, .slice none 0 0]) (hG : GV w) (hs2 : 10 ≤ s) (hl : t.length ≤ 6000) : FnS 70 [pt s] w w s t (scanR t) := by
 have hsz := hb.lt
 refine Ao Tryz.func70 rfl Tryz.ntmps70 (Nat.le_of_ble_eq_true rfl) (by kernel_rfl) ?_
 repeat' first | refine nx rfl ?_ | fail
 (refine AA (AO rfl (A4 rfl rfl (AO rfl (A4 rfl rfl (AO rfl (A4 rfl rfl (AO rfl (A4 rfl rfl (AO rfl (A4 rfl rfl ?_)))))))))) <;> refine W_buildArr (by rfl) (by rfl) ?_)
 refine Au (fun w1 n1 => ?_)
 refine Ad (cs := fnC s) rfl rfl rfl (by intro u hu; simp [fnC] at hu; rcases hu with rfl | rfl | rfl | rfl | rfl <;> rfl) n1.blk (by simp [fnC]) (fun w2 p2 => ?_)
 have hb2 : Blk w2 w.heap.size 165 (fnC s) := p2.blk
 have k2 : Ext w w2 := n1.keep.keep p2.keep (by simp)
 have hbs := hb.keep k2 (by simp)
 repeat' first | refine nx rfl ?_ | fail
 have hG2 := hG.ext k2
 have hs0 : St w2 w2 s t 0 [] := ⟨Keep.refl _ _, by have := k2.size; omega, hl, by omega, by simp, _, hbs, ⟨rfl, .inl ⟨rfl, rfl⟩⟩⟩
 have hb2lt := hb2.lt
 have hfin : ∀ w' a ts, St w2 w' s t a ts → St w w' s t a ts := fun w' a ts h => by
  obtain ⟨hk, hs, hl, ha, hn, tv, hb, ho⟩ := h
  exact ⟨k2.any.trans hk fun x hx _ => hx, hsz, hl, ha, hn, tv, hb, ownsRow_mono ho k2.size⟩
 have hpan : ∀ w', Keep [s] w2 w' → Keep [s] w w' := fun w' h => k2.any.trans h fun x hx _ => hx
 refine BC (α := Nat × Nat × List Tok) (fun _ => [(0, pt s), (2, pt w.heap.size)]) (fun x w1 => St w2 w1 s t x.2.1 x.2.2 ∧ t.length < x.1 + x.2.1 ∧ scanF t x.1 x.2.1 x.2.2 = scanR t) (fun x => x.1) (t.length + 1, 0, []) ⟨rfl, rfl, trivial⟩ ⟨hs0, by simp, rfl⟩ ?_
 rintro ⟨n, a, ts⟩ w3 f' ⟨hst, hn, hr⟩
 simp only at hst hn hr ⊢
 obtain ⟨n, rfl⟩ : ∃ m, n = m + 1 := ⟨n - 1, by have := hst.loc; omega⟩
 unfold scanF at hr
 repeat' first | refine nx rfl ?_ | fail
 refine BQ (.read 0 (.read 1 (.read 2 (.read 3 (.read 4 (.read 5 (.read 6 (.read 7 (.read 8 (.read 9 .done)))))))))) BE (by kernel_rfl) (fun wd kd ed => ⟨fun W => W = wd, ?_, ?_⟩)
 ·rfl
 obtain ⟨hk3, hs3, _, ha3, hn3, tv3, hb3, ho3⟩ := id hst
 have hbd := hb3.keep kd (by simp)
 by_cases hlt : a < t.length
 ·rw [if_pos hlt] at hr
  ((apply D_R rfl rfl; (intro W hW; subst hW; refine AO rfl ?_; exact AE ⟨rfl, rfl, rfl⟩)) <;> (apply D_R rfl rfl; (intro W hW; subst hW; refine AH rfl ?_; exact AE ⟨rfl, rfl, rfl⟩)) <;> (apply D_R rfl rfl; (intro W hW; subst hW; refine AD rfl ?_; exact AE ⟨rfl, rfl, rfl⟩)) <;> (apply D_R rfl rfl; (intro W hW; subst hW; refine AG rfl (Blk.cell (by assumption) (by rfl)) ?_; exact AE ⟨rfl, rfl, rfl⟩)) <;> (apply D_R rfl rfl; (intro W hW; subst hW; refine AO rfl ?_; exact AE ⟨rfl, rfl, rfl⟩)) <;> (apply D_R rfl rfl; (intro W hW; subst hW; refine AH rfl ?_; exact AE ⟨rfl, rfl, rfl⟩)) <;> (apply D_R rfl rfl; (intro W hW; subst hW; refine AD rfl ?_; exact AE ⟨rfl, rfl, rfl⟩)) <;> (apply D_R rfl rfl; (intro W hW; subst hW; refine AG rfl (Blk.cell (by assumption) (by rfl)) ?_; exact AE ⟨rfl, rfl, rfl⟩)) <;> (apply D_R rfl rfl; (intro W hW; subst hW; refine A9 rfl ?_; exact AE ⟨rfl, rfl, rfl⟩)) <;> (refine D_lss rfl rfl rfl rfl (fun hc => ?_) (fun hc => ?_) <;> try omega) <;> refine A3 ?_)
  have hstd := hst.ext kd
  have hc : t[a]? = some t[a] := List.getElem?_eq_getElem hlt
  generalize t[a] = c at hc
  have hGd : GV wd := hG2.keep hstd.keep (by simp; omega) (by simp; omega)
  have hb2d : Blk wd w.heap.size 165 (fnC s) := hb2.keep hstd.keep (by simp; omega)
  repeat' first | refine nx rfl ?_ | fail
  clear hbd
  refine BQ (.read 0 (.read 1 (.read 2 (.read 3 (.read 4 (.read 5 (.read 6 (.read 7 (.read 8 (.read 9 .done)))))))))) BE (by kernel_rfl) (fun wd kd ed => ⟨fun W => W = wd, ?_, ?_⟩)
  ·rfl
  have hbd := (hb3.keep (by assumption) (by simp)).keep kd (by simp)
  ((apply D_R rfl rfl; (intro W hW; subst hW; refine AO rfl ?_; exact AE ⟨rfl, rfl, rfl⟩)) <;> (apply D_R rfl rfl; (intro W hW; subst hW; refine AH rfl ?_; exact AE ⟨rfl, rfl, rfl⟩)) <;> (apply D_R rfl rfl; (intro W hW; subst hW; refine AD rfl ?_; exact AE ⟨rfl, rfl, rfl⟩)) <;> (apply D_R rfl rfl; (intro W hW; subst hW; refine AG rfl (Blk.cell (by assumption) (by rfl)) ?_; exact AE ⟨rfl, rfl, rfl⟩)) <;> (apply D_R rfl rfl; (intro W hW; subst hW; refine AO rfl ?_; exact AE ⟨rfl, rfl, rfl⟩)) <;> (apply D_R rfl rfl; (intro W hW; subst hW; refine AH rfl ?_; exact AE ⟨rfl, rfl, rfl⟩)) <;> (apply D_R rfl rfl; (intro W hW; subst hW; refine AD rfl ?_; exact AE ⟨rfl, rfl, rfl⟩)) <;> (apply D_R rfl rfl; (intro W hW; subst hW; refine AG rfl (Blk.cell (by assumption) (by rfl)) ?_; exact AE ⟨rfl, rfl, rfl⟩)) <;> (apply D_R rfl rfl; (intro W hW; subst hW; refine BK rfl rfl (by assumption) ?_; exact AE ⟨rfl, rfl, rfl⟩)) <;> (apply D_R rfl rfl; (intro W hW; subst hW; (refine AC ?_; refine AI rfl ?_); exact AE ⟨rfl, rfl, rfl⟩)) <;> refine A3 ?_)
  have hst4 := hstd.ext kd
  have hG4 := hGd.ext kd
  have hb4 := hb2d.keep kd (by simp)
  clear hbd
  repeat' first | refine nx rfl ?_ | fail
  (refine AA ?_; refine AV rfl rfl hG4.spans ?_; refine AI rfl ?_; refine AE ?_)
  repeat' first | refine nx rfl ?_ | fail
  have hst5 : Bo t a ts = match (spansL.find? (inSpan c)).map (·.2.2) with | some 0 => blankM a ts | some 1 => commM t a ts | some 2 => nameM t a ts | some 3 => numM t a ts | some _ => symM t a ts | none => .error (40, a) := by
   unfold Bo; rw [getD_of hc]; rfl
  refine BC (α := Nat) (fun k => [(0, pt s), (2, pt w.heap.size), (3, enc8 c), (36, .agg spanC.toArray), (37, .int .i64 (k : Int))]) (fun k w5 => k ≤ 16 ∧ Ext wd w5 ∧ spansL.find? (inSpan c) = (spansL.drop k).find? (inSpan c)) (fun k => 16 - k) 0 ⟨rfl, rfl, rfl, rfl, rfl, trivial⟩ ⟨by omega, Ext.refl _, rfl⟩ ?_
  rintro k w5 f5 ⟨hk, hw5, hf⟩
  have h5 := hst4.ext hw5
  repeat' first | refine nx rfl ?_ | fail
  by_cases hlk : k < 16
  ·have hp : spansL[k]? = some spansL[k] := List.getElem?_eq_getElem hlk
   generalize spansL[k] = p at hp
   rw [find_step hp] at hf
   have hpm : p.2.2 < 5 := by
    have : ∀ p ∈ spansL, p.2.2 < 5 := by decide
    exact this p (List.mem_of_getElem? hp)
   (refine AA ?_ <;> (refine As rfl rfl (fun hc => ?_) (fun hc => ?_) <;> try omega))
   repeat' first | refine nx rfl ?_ | fail
   (refine AA ?_; refine W_vidx rfl rfl hlk (spanC_at _ _ _ hp) ?_; refine Au (fun w6 n6 => ?_))
   refine Ad (cs := spanC1 p) rfl rfl rfl (by intro u hu; simp [spanC1] at hu; rcases hu with rfl | rfl | rfl <;> rfl) n6.blk (by simp [spanC1]) (fun w7 p7 => ?_)
   have b7 : Blk w7 w5.heap.size 167 (spanC1 p) := p7.blk
   have k7 : Ext w5 w7 := n6.keep.keep p7.keep (by simp)
   have h7 := h5.ext k7
   repeat' first | refine nx rfl ?_ | fail
   have hb7 : Blk w7 w.heap.size 165 (fnC s) := (hb4.keep hw5 (by simp)).keep k7 (by simp)
   obtain ⟨p1, p2, p3⟩ := p
   simp only at hpm
   replace b7 : Blk w7 w5.heap.size 167 [.int .u8 (p1 : Int), .int .u8 (p2 : Int), .int .i64 (p3 : Int)] := b7
   by_cases c1 : p1 ≤ c.toNat
   ·by_cases c2 : c.toNat ≤ p2
    ·rw [if_pos (by simp [inSpan, c1, c2])] at hf
     (refine AA (AD rfl ?_) <;> refine AG rfl (Blk.cell (by assumption) (by rfl)) ?_ <;> refine AI rfl ?_ <;> (refine Ba rfl rfl (fun hc => ?_) (fun hc => ?_) <;> try omega) <;> refine AB rfl (AF rfl (AI rfl (AF rfl (AD rfl ?_)))) <;> (refine AF rfl ?_; refine AG rfl (Blk.cell (by assumption) (by rfl)) ?_) <;> (refine AF rfl ?_; (refine Ba rfl rfl (fun hc => ?_) (fun hc => ?_) <;> try omega)) <;> refine AL rfl (AB rfl ?_))
     repeat' first | refine nx rfl ?_ | fail
     obtain rfl | rfl | rfl | rfl | rfl : p3 = 0 ∨ p3 = 1 ∨ p3 = 2 ∨ p3 = 3 ∨ p3 = 4 := by omega
     ·have e0 : Bo t a ts = blankM a ts := by rw [hst5, hf]; rfl
      (refine AA (AD rfl ?_) <;> refine AG rfl (Blk.cell (by assumption) (by rfl)) ?_ <;> refine W_indexArr rfl rfl (by omega) (by omega) ?_ <;> refine AG rfl (Blk.cell (by assumption) (by rfl)) ?_)
      refine Bz (v1 := [pt s]) (v2 := []) (vs := []) rfl (blank_ok w2 _ s a t ts h7 hlt) rfl ?_ ?_
      ·rintro v w8 ⟨rfl, a', ts', he, h8⟩
       have hee := e0.trans he
       rw [hee] at hr
       repeat' first | refine nx rfl ?_ | fail
       exact ⟨(n, a', ts'), ⟨rfl, ⟨rfl, rfl, trivial⟩, ⟨h8, by have := step_on hlt hee; simp only; omega, hr⟩⟩, Nat.lt_succ_self _⟩
      ·rintro ch w8 ⟨e, q, he, rfl, h8⟩
       have hee := e0.trans he
       rw [hee] at hr
       repeat' first | refine nx rfl ?_ | fail
       exact AX ⟨e, q, hr.symm, rfl, hpan _ h8⟩
     ·have e0 : Bo t a ts = commM t a ts := by rw [hst5, hf]; rfl
      (refine AA (AD rfl ?_) <;> refine AG rfl (Blk.cell (by assumption) (by rfl)) ?_ <;> refine W_indexArr rfl rfl (by omega) (by omega) ?_ <;> refine AG rfl (Blk.cell (by assumption) (by rfl)) ?_)
      refine Bz (v1 := [pt s]) (v2 := []) (vs := []) rfl (comment_ok w2 _ s a t ts h7) rfl ?_ ?_
      ·rintro v w8 ⟨rfl, a', ts', he, h8⟩
       have hee := e0.trans he
       rw [hee] at hr
       repeat' first | refine nx rfl ?_ | fail
       exact ⟨(n, a', ts'), ⟨rfl, ⟨rfl, rfl, trivial⟩, ⟨h8, by have := step_on hlt hee; simp only; omega, hr⟩⟩, Nat.lt_succ_self _⟩
      ·rintro ch w8 ⟨e, q, he, rfl, h8⟩
       have hee := e0.trans he
       rw [hee] at hr
       repeat' first | refine nx rfl ?_ | fail
       exact AX ⟨e, q, hr.symm, rfl, hpan _ h8⟩
     ·have e0 : Bo t a ts = nameM t a ts := by rw [hst5, hf]; rfl
      (refine AA (AD rfl ?_) <;> refine AG rfl (Blk.cell (by assumption) (by rfl)) ?_ <;> refine W_indexArr rfl rfl (by omega) (by omega) ?_ <;> refine AG rfl (Blk.cell (by assumption) (by rfl)) ?_)
      refine Bz (v1 := [pt s]) (v2 := []) (vs := []) rfl (scanName_ok w2 _ s a t ts h7 hlt) rfl ?_ ?_
      ·rintro v w8 ⟨rfl, a', ts', he, h8⟩
       have hee := e0.trans he
       rw [hee] at hr
       repeat' first | refine nx rfl ?_ | fail
       exact ⟨(n, a', ts'), ⟨rfl, ⟨rfl, rfl, trivial⟩, ⟨h8, by have := step_on hlt hee; simp only; omega, hr⟩⟩, Nat.lt_succ_self _⟩
      ·rintro ch w8 ⟨e, q, he, rfl, h8⟩
       have hee := e0.trans he
       rw [hee] at hr
       repeat' first | refine nx rfl ?_ | fail
       exact AX ⟨e, q, hr.symm, rfl, hpan _ h8⟩
     ·have e0 : Bo t a ts = numM t a ts := by rw [hst5, hf]; rfl
      (refine AA (AD rfl ?_) <;> refine AG rfl (Blk.cell (by assumption) (by rfl)) ?_ <;> refine W_indexArr rfl rfl (by omega) (by omega) ?_ <;> refine AG rfl (Blk.cell (by assumption) (by rfl)) ?_)
      refine Bz (v1 := [pt s]) (v2 := []) (vs := []) rfl (scanNumber_ok w2 _ s a t ts h7 hlt) rfl ?_ ?_
      ·rintro v w8 ⟨rfl, a', ts', he, h8⟩
       have hee := e0.trans he
       rw [hee] at hr
       repeat' first | refine nx rfl ?_ | fail
       exact ⟨(n, a', ts'), ⟨rfl, ⟨rfl, rfl, trivial⟩, ⟨h8, by have := step_on hlt hee; simp only; omega, hr⟩⟩, Nat.lt_succ_self _⟩
      ·rintro ch w8 ⟨e, q, he, rfl, h8⟩
       have hee := e0.trans he
       rw [hee] at hr
       repeat' first | refine nx rfl ?_ | fail
       exact AX ⟨e, q, hr.symm, rfl, hpan _ h8⟩
     ·have e0 : Bo t a ts = symM t a ts := by rw [hst5, hf]; rfl
      (refine AA (AD rfl ?_) <;> refine AG rfl (Blk.cell (by assumption) (by rfl)) ?_ <;> refine W_indexArr rfl rfl (by omega) (by omega) ?_ <;> refine AG rfl (Blk.cell (by assumption) (by rfl)) ?_)
      refine Bz (v1 := [pt s]) (v2 := []) (vs := []) rfl (symbol_ok w2 _ s a t ts h7 hlt hG2 hs2) rfl ?_ ?_
      ·rintro v w8 ⟨rfl, a', ts', he, h8⟩
       have hee := e0.trans he
       rw [hee] at hr
       repeat' first | refine nx rfl ?_ | fail
       exact ⟨(n, a', ts'), ⟨rfl, ⟨rfl, rfl, trivial⟩, ⟨h8, by have := step_on hlt hee; simp only; omega, hr⟩⟩, Nat.lt_succ_self _⟩
      ·rintro ch w8 ⟨e, q, he, rfl, h8⟩
       have hee := e0.trans he
       rw [hee] at hr
       repeat' first | refine nx rfl ?_ | fail
       exact AX ⟨e, q, hr.symm, rfl, hpan _ h8⟩
    ·rw [if_neg (by simp [inSpan, c2])] at hf
     (refine AA (AD rfl ?_) <;> refine AG rfl (Blk.cell (by assumption) (by rfl)) ?_ <;> refine AI rfl ?_ <;> (refine Ba rfl rfl (fun hc => ?_) (fun hc => ?_) <;> try omega) <;> refine AB rfl (AF rfl (AI rfl (AF rfl (AD rfl ?_)))) <;> (refine AF rfl ?_; refine AG rfl (Blk.cell (by assumption) (by rfl)) ?_) <;> (refine AF rfl ?_; (refine Ba rfl rfl (fun hc => ?_) (fun hc => ?_) <;> try omega)) <;> refine AL rfl (AB rfl ?_))
     repeat' first | refine nx rfl ?_ | refine nf rfl ?_
     (refine AA ?_ <;> refine BB rfl rfl (by first | exact Ak (by omega) (by omega) | exact Ar (by omega) (by omega) | exact Aj (by omega) (by omega)) ?_ <;> refine AI rfl ?_)
     repeat' first | refine nx rfl ?_ | fail
     refine ⟨k + 1, ⟨rfl, ⟨rfl, rfl, rfl, rfl, ?_, trivial⟩, ⟨by omega, hw5.trans k7, hf⟩⟩, by omega⟩
     show Value.int .i64 ((k : Int) + 1) = _
     rw [Int.natCast_add]; rfl
   ·rw [if_neg (by simp [inSpan, c1])] at hf
    (refine AA (AD rfl ?_) <;> refine AG rfl (Blk.cell (by assumption) (by rfl)) ?_ <;> refine AI rfl ?_ <;> (refine Ba rfl rfl (fun hc => ?_) (fun hc => ?_) <;> try omega) <;> refine AB rfl (AJ rfl (AJ rfl (AJ rfl (AJ rfl (AQ rfl (AB rfl ?_)))))))
    repeat' first | refine nx rfl ?_ | refine nf rfl ?_
    (refine AA ?_ <;> refine BB rfl rfl (by first | exact Ak (by omega) (by omega) | exact Ar (by omega) (by omega) | exact Aj (by omega) (by omega)) ?_ <;> refine AI rfl ?_)
    repeat' first | refine nx rfl ?_ | fail
    refine ⟨k + 1, ⟨rfl, ⟨rfl, rfl, rfl, rfl, ?_, trivial⟩, ⟨by omega, hw5.trans k7, hf⟩⟩, by omega⟩
    show Value.int .i64 ((k : Int) + 1) = _
    rw [Int.natCast_add]; rfl
  ·obtain ⟨hk6, hs6, _, ha6, hn6, tv6, hb6, ho6⟩ := id h5
   (refine AA ?_ <;> (refine As rfl rfl (fun hc => ?_) (fun hc => ?_) <;> try omega))
   repeat' first | refine nx rfl ?_ | refine nf rfl ?_
   (refine AA (AO rfl (AH rfl (AD rfl ?_))) <;> refine AG rfl (Blk.cell (by assumption) (by rfl)) ?_ <;> refine Ae (by rfl) (by rfl) ?_ <;> refine Cd (Ch rfl ?_))
   repeat' first | refine nx rfl ?_ | fail
   have hd : spansL.drop k = [] := List.drop_eq_nil_of_le (by show 16 ≤ k; omega)
   rw [hd] at hf
   rw [hst5, hf] at hr
   exact AX ⟨_, _, hr.symm, rfl, hpan _ hk6⟩
 ·rw [if_neg hlt] at hr
  ((apply D_R rfl rfl; (intro W hW; subst hW; refine AO rfl ?_; exact AE ⟨rfl, rfl, rfl⟩)) <;> (apply D_R rfl rfl; (intro W hW; subst hW; refine AH rfl ?_; exact AE ⟨rfl, rfl, rfl⟩)) <;> (apply D_R rfl rfl; (intro W hW; subst hW; refine AD rfl ?_; exact AE ⟨rfl, rfl, rfl⟩)) <;> (apply D_R rfl rfl; (intro W hW; subst hW; refine AG rfl (Blk.cell (by assumption) (by rfl)) ?_; exact AE ⟨rfl, rfl, rfl⟩)) <;> (apply D_R rfl rfl; (intro W hW; subst hW; refine AO rfl ?_; exact AE ⟨rfl, rfl, rfl⟩)) <;> (apply D_R rfl rfl; (intro W hW; subst hW; refine AH rfl ?_; exact AE ⟨rfl, rfl, rfl⟩)) <;> (apply D_R rfl rfl; (intro W hW; subst hW; refine AD rfl ?_; exact AE ⟨rfl, rfl, rfl⟩)) <;> (apply D_R rfl rfl; (intro W hW; subst hW; refine AG rfl (Blk.cell (by assumption) (by rfl)) ?_; exact AE ⟨rfl, rfl, rfl⟩)) <;> (apply D_R rfl rfl; (intro W hW; subst hW; refine A9 rfl ?_; exact AE ⟨rfl, rfl, rfl⟩)) <;> (refine D_lss rfl rfl rfl rfl (fun hc => ?_) (fun hc => ?_) <;> try omega) <;> refine A3 ?_)
  repeat' first | refine nx rfl ?_ | refine nf rfl ?_
  exact At rfl ⟨rfl, _, _, hr.symm, hfin _ _ _ (hst.ext kd)⟩
end Go.Proofs.YtfcgdbmoncnibaaGreatDoor
namespace Go.Proofs.YtfcgdbmoncnibaaGreatDoor
open Go.RowKit
set_option linter.unusedVariables false
variable {mk : Prop} [MK mk]
theorem rec_ret (w : World) (c2 c3 c4 : Nat) : CallsDIn Fence.wide 0 Tryz.prog 69 ([] ++ [pt c2, pt c3, pt c4] : List Value).toArray .returning w (fun e u' w' => match e with | .returned _ => u' = .returning ∧ Ext w w' | _ => False) := by
 refine CY (u1 := .returning) (v0 := .nilIface) (G := fun _ w' => Ext w w') (args := [pt c2, pt c3, pt c4]) Tryz.func69 rfl Tryz.ntmps69 (by simp) (by decide) (by kernel_rfl) (by kernel_rfl) (.inl ⟨rfl, rfl, rfl⟩) ?_
 refine W_assert_nil (z := .agg #[.int .i64 0, .int .i64 0]) rfl (by kernel_rfl) ?_
 refine Bj rfl (Ai rfl rfl (Ai rfl rfl ?_))
 refine Au (fun w1 n1 => ?_)
 refine Ad (cs := [.int .i64 0, .int .i64 0]) rfl rfl rfl (by intro u hu; simp at hu; subst hu; rfl) n1.blk (by simp) (fun w2 p2 => ?_)
 have k2 : Ext w w2 := n1.keep.keep p2.keep (by simp)
 ((refine AC ?_; refine AB rfl ?_))
 repeat' first | refine nx rfl ?_ | fail
 refine AA (AB rfl ?_)
 repeat' first | refine nx rfl ?_ | refine nf rfl ?_
 exact At rfl k2
theorem rec_pan (w : World) (c2 c3 c4 : Nat) (x2 x3 x4 : Value) (e q : Int) (d2 : Blk w c2 65 [x2]) (d3 : Blk w c3 44 [x3]) (d4 : Blk w c4 3 [x4]) (h23 : c2 ≠ c3) (h24 : c2 ≠ c4) (h34 : c3 ≠ c4) :
  CallsDIn Fence.wide 0 Tryz.prog 69 ([] ++ [pt c2, pt c3, pt c4] : List Value).toArray (.panicking [{ v := .iface 107 (.agg #[.int .i64 e, .int .i64 q]), recovered := false }]) w
   (fun en u' w' => match en with | .returned _ => u' = .panicking [{ v := .iface 107 (.agg #[.int .i64 e, .int .i64 q]), recovered := true }] ∧ (Keep [c2, c3, c4] w w' ∧ Blk w' c2 65 [.slice none 0 0] ∧ Blk w' c3 44 [.int .i64 e] ∧ Blk w' c4 3 [.int .i64 q]) | _ => False) := by
 have l2 := d2.lt
 have l3 := d3.lt
 have l4 := d4.lt
 refine CY (u1 := .panicking [{ v := .iface 107 (.agg #[.int .i64 e, .int .i64 q]), recovered := true }]) (v0 := .iface 107 (.agg #[.int .i64 e, .int .i64 q]))
  (G := fun _ w' => Keep [c2, c3, c4] w w' ∧ Blk w' c2 65 [.slice none 0 0] ∧ Blk w' c3 44 [.int .i64 e] ∧ Blk w' c4 3 [.int .i64 q]) (args := [pt c2, pt c3, pt c4]) Tryz.func69 rfl Tryz.ntmps69 (by simp) (by decide) (by kernel_rfl) (by kernel_rfl) (.inr ⟨_, rfl, rfl, rfl⟩) ?_
 refine W_assert_yes rfl ?_
 refine Bj rfl (Ai rfl rfl (Ai rfl rfl ?_))
 refine Au (fun w1 n1 => ?_)
 refine Ad (cs := [.int .i64 e, .int .i64 q]) rfl rfl rfl (by intro u hu; simp at hu; rcases hu with rfl | rfl <;> rfl) n1.blk (by simp) (fun w2 p2 => ?_)
 have k2 : Ext w w2 := n1.keep.keep p2.keep (by simp)
 have b3 : Blk w2 w.heap.size 107 [.int .i64 e, .int .i64 q] := p2.blk
 replace d2 := d2.keep k2 (by simp)
 replace d3 := d3.keep k2 (by simp)
 replace d4 := d4.keep k2 (by simp)
 ((refine AC ?_; refine AB rfl ?_))
 repeat' first | refine nx rfl ?_ | fail
 refine AA (AB rfl ?_)
 repeat' first | refine nx rfl ?_ | fail
 refine BQ (.read 0 (.read 1 (.read 2 (.read 3 (.alt 4 (.alt 5 (.alt 6 .done .stop) .stop) .stop))))) BE (by kernel_rfl) (fun wd kd ed => ⟨fun W => W.cell? ⟨w.heap.size, 0, none⟩ = some (.int .i64 e) ∧ W.cell? ⟨w.heap.size, 1, none⟩ = some (.int .i64 q), ?_, ?_⟩)
 ·exact ⟨(b3.keep kd (by simp)).cell rfl, (b3.keep kd (by simp)).cell rfl⟩
 have fc0 : ∀ W : World, (W.cell? ⟨w.heap.size, 0, none⟩ = some (.int .i64 e) ∧ W.cell? ⟨w.heap.size, 1, none⟩ = some (.int .i64 q)) → W.cell? ⟨w.heap.size, 0, none⟩ = some (.int .i64 e) := fun W h => h.1
 have fc1 : ∀ W : World, (W.cell? ⟨w.heap.size, 0, none⟩ = some (.int .i64 e) ∧ W.cell? ⟨w.heap.size, 1, none⟩ = some (.int .i64 q)) → W.cell? ⟨w.heap.size, 1, none⟩ = some (.int .i64 q) := fun W h => h.2
 replace b3 := b3.keep kd (by simp)
 replace d2 := d2.keep kd (by simp)
 replace d3 := d3.keep kd (by simp)
 replace d4 := d4.keep kd (by simp)
 have k : Keep [c2, c3, c4] w wd := (k2.trans kd).any
 ((apply D_R rfl rfl; (intro W hW; refine AD rfl ?_; exact AE ⟨rfl, rfl, rfl⟩)) <;> (apply D_R rfl rfl; (intro W hW; refine AG rfl (fc0 W hW) ?_; exact AE ⟨rfl, rfl, rfl⟩)) <;> (apply D_R rfl rfl; (intro W hW; refine AD rfl ?_; exact AE ⟨rfl, rfl, rfl⟩)) <;> (apply D_R rfl rfl; (intro W hW; refine AG rfl (fc1 W hW) ?_; exact AE ⟨rfl, rfl, rfl⟩)))
 refine D_E rfl ?_
 refine Am rfl rfl rfl d2 (by simp) (fun W p => ?_)
 have bb := p.blk
 replace d3 := d3.keep p.keep (by simp; omega)
 replace d4 := d4.keep p.keep (by simp; omega)
 replace b3 := b3.keep p.keep (by simp; omega)
 replace k := k.trans p.keep (by simp)
 clear d2
 have d2 := bb
 clear bb p
 refine AE ⟨_, fun _ h => h, ⟨b3.cell rfl, b3.cell rfl⟩, ?_⟩
 refine D_E rfl ?_
 refine Am rfl rfl rfl d3 (by simp) (fun W p => ?_)
 have bb := p.blk
 replace d2 := d2.keep p.keep (by simp; omega)
 replace d4 := d4.keep p.keep (by simp; omega)
 replace b3 := b3.keep p.keep (by simp; omega)
 replace k := k.trans p.keep (by simp)
 clear d3
 have d3 := bb
 clear bb p
 refine AE ⟨_, fun _ h => h, ⟨b3.cell rfl, b3.cell rfl⟩, ?_⟩
 refine D_E rfl ?_
 refine Am rfl rfl rfl d4 (by simp) (fun W p => ?_)
 have bb := p.blk
 replace d2 := d2.keep p.keep (by simp; omega)
 replace d3 := d3.keep p.keep (by simp; omega)
 replace b3 := b3.keep p.keep (by simp; omega)
 replace k := k.trans p.keep (by simp)
 clear d4
 have d4 := bb
 clear bb p
 refine AE ⟨_, fun _ h => h, ⟨b3.cell rfl, b3.cell rfl⟩, ?_⟩
 refine A3 ?_
 repeat' first | refine nx rfl ?_ | fail
 exact At rfl ⟨k, d2, d3, d4⟩
end Go.Proofs.YtfcgdbmoncnibaaGreatDoor
namespace Go.Proofs.YtfcgdbmoncnibaaGreatDoor
open Go.RowKit
set_option linter.unusedVariables false
variable {mk : Prop} [MK mk]
def lexM (t : List UInt8) : Except (Int × Nat) (List Tok) :=
 if 6000 < t.length then .error (2, 6000) else match scanR t with | .ok r => .ok r.2 | .error e => .error e
def LexAns (B : Nat) (w' : World) (m : Except (Int × Nat) (List Tok)) (tv : Value) (e q : Int) : Prop :=
 match m with
 | .ok ts => e = 0 ∧ q = -1 ∧ w'.ownsRow B 158 3 tv ts.length (toksC ts)
 | .error (e', p) => e = e' ∧ q = (p : Int) ∧ tv = .slice none 0 0
theorem lex_ok (w : World) (t : List UInt8) (hG : GV w) : Fn Tryz.prog 38 [AM t] w fun v w' => ∃ tv e q, v = .tuple #[tv, .int .i64 e, .int .i64 q] ∧ Ext w w' ∧ LexAns w.heap.size w' (lexM t) tv e q := by
 have h2 := hG.size
 refine fn_of_wcD Tryz.func38 rfl Tryz.ntmps38 (Nat.le_of_ble_eq_true rfl) (by kernel_rfl) ?_
 repeat' first | refine nx rfl ?_ | fail
 (refine AA ?_)
 refine Au (fun w1 n1 => ?_)
 refine Au (fun w2 n2 => ?_)
 refine Au (fun w3 n3 => ?_)
 have z1 := n1.size
 have z2 := n2.size
 have z3 := n3.size
 have b1 : Blk w3 w.heap.size 65 [.slice none 0 0] := (n1.blk.keep n2.keep (by simp)).keep n3.keep (by simp)
 have b2 : Blk w3 w1.heap.size 44 [.int .i64 0] := n2.blk.keep n3.keep (by simp)
 have b3 : Blk w3 w2.heap.size 3 [.int .i64 0] := n3.blk
 have k3 : Ext w w3 := (n1.keep.trans n2.keep).trans n3.keep
 repeat' first | refine nx rfl ?_ | fail
 by_cases hlen : 6000 < t.length
 ·(refine AA (Ab rfl (A9 rfl ?_)) <;> (refine Bs rfl rfl (fun hc => ?_) (fun hc => ?_) <;> try omega))
  repeat' first | refine nx rfl ?_ | fail
  (refine AA ?_; refine Am rfl rfl rfl b1 (by simp) (fun w4 p4 => ?_))
  refine Am rfl rfl rfl (b2.keep p4.keep (by simp; omega)) (by simp) (fun w5 p5 => ?_)
  refine Am rfl rfl rfl ((b3.keep p4.keep (by simp; omega)).keep p5.keep (by simp; omega)) (by simp) (fun w6 p6 => ?_)
  have c1 : Blk w6 w.heap.size 65 [.slice none 0 0] := (p4.blk.keep p5.keep (by simp; omega)).keep p6.keep (by simp; omega)
  have c2 : Blk w6 w1.heap.size 44 [.int .i64 2] := p5.blk.keep p6.keep (by simp; omega)
  have c3 : Blk w6 w2.heap.size 3 [.int .i64 6000] := p6.blk
  have k6 : Ext w w6 := ((k3.keep p4.keep (by simp)).keep p5.keep (by simp; omega)).keep p6.keep (by simp; omega)
  repeat' first | refine nx rfl ?_ | fail
  refine finD_ret_nil (BI rfl (c1.cell rfl) (BI rfl (c2.cell rfl) (BI rfl (c3.cell rfl) ?_)))
  refine ⟨_, _, _, rfl, k6, ?_⟩
  unfold lexM
  rw [if_pos hlen]
  exact ⟨rfl, rfl, rfl⟩
 ·(refine AA (Ab rfl (A9 rfl ?_)) <;> (refine Bs rfl rfl (fun hc => ?_) (fun hc => ?_) <;> try omega))
  repeat' first | refine nx rfl ?_ | refine nf rfl ?_
  refine AA (A4 rfl rfl ?_)
  refine W_defer (v1 := []) (v2 := [pt w.heap.size, pt w1.heap.size, pt w2.heap.size]) (vs := []) rfl rfl ?_
  repeat' first | refine nx rfl ?_ | fail
  (refine AA (Ab rfl ?_) <;> refine Ae (by rfl) (by rfl) ?_)
  refine BY (L := [AM t, .int .i64 0, .slice none 0 0]) rfl (fun w4 n4 => ?_)
  have z4 := n4.size
  have s4 := n4.blk
  have k4 : Ext w w4 := k3.trans n4.keep
  ((refine AC ?_; refine AO rfl ?_))
  repeat' first | refine nx rfl ?_ | fail
  refine AA (AO rfl ?_)
  have hm : lexM t = match scanR t with | .ok r => .ok r.2 | .error e => .error e := by unfold lexM; rw [if_neg hlen]
  refine AZ (scan_ok w4 w3.heap.size t s4 (hG.ext k4) (by omega) (by omega)) rfl ?_ ?_
  ·rintro v w5 ⟨rfl, a, ts, he, h5⟩
   obtain ⟨hk5, hs5, _, ha5, hn5, tv, hb5, ho5⟩ := h5
   repeat' first | refine nx rfl ?_ | fail
   (refine AA (AO rfl (AH rfl (AD rfl ?_))) <;> refine AG rfl (Blk.cell (by assumption) (by rfl)) ?_)
   have e1 : Blk w5 w.heap.size 65 [.slice none 0 0] := (b1.keep n4.keep (by simp)).keep hk5 (by simp; omega)
   have e2 : Blk w5 w1.heap.size 44 [.int .i64 0] := (b2.keep n4.keep (by simp)).keep hk5 (by simp; omega)
   have e3 : Blk w5 w2.heap.size 3 [.int .i64 0] := (b3.keep n4.keep (by simp)).keep hk5 (by simp; omega)
   obtain ⟨tp, tc, rfl⟩ : ∃ tp tc, tv = .slice tp ts.length tc := by
    rcases ho5.2 with ⟨rfl, h0⟩ | ⟨g, cap, cur, rfl, _⟩
    ·exact ⟨none, 0, by rw [h0]⟩
    ·exact ⟨_, _, rfl⟩
   refine Am rfl rfl rfl e1 (by simp) (fun w6 p6 => ?_)
   refine Am rfl rfl rfl (e2.keep p6.keep (by simp; omega)) (by simp) (fun w7 p7 => ?_)
   refine Am rfl rfl rfl ((e3.keep p6.keep (by simp; omega)).keep p7.keep (by simp; omega)) (by simp) (fun w8 p8 => ?_)
   have c1 : Blk w8 w.heap.size 65 [.slice tp ts.length tc] := (p6.blk.keep p7.keep (by simp; omega)).keep p8.keep (by simp; omega)
   have c2 : Blk w8 w1.heap.size 44 [.int .i64 0] := p7.blk.keep p8.keep (by simp; omega)
   have c3 : Blk w8 w2.heap.size 3 [.int .i64 (-1)] := p8.blk
   have k5 : Ext w w5 := k4.keep hk5 (by simp; omega)
   have k8 : Ext w w8 := ((k5.keep p6.keep (by simp)).keep p7.keep (by simp; omega)).keep p8.keep (by simp; omega)
   have hne : ∀ g, (Value.slice tp ts.length tc).ownBlock = some g → w4.heap.size ≤ g := fun g hg => (BW ho5 hg).1
   have o8 := Ay (Ay (Ay ho5 p6.keep fun g hg => by have := hne g hg; simp; omega) p7.keep fun g hg => by have := hne g hg; simp; omega) p8.keep fun g hg => by have := hne g hg; simp; omega
   repeat' first | refine nx rfl ?_ | fail
   refine finD_ret_def (rec_ret _ _ _ _) fun w9 k9 => ?_
   refine BI rfl ((c1.keep k9 (by simp)).cell rfl) (BI rfl ((c2.keep k9 (by simp)).cell rfl) (BI rfl ((c3.keep k9 (by simp)).cell rfl) ?_))
   refine ⟨_, _, _, rfl, k8.trans k9, ?_⟩
   rw [hm, he]
   exact ⟨rfl, rfl, ownsRow_mono (Br o8 k9) k4.size⟩
  ·rintro ch w5 ⟨e, p, he, rfl, hk5⟩
   repeat' first | refine nx rfl ?_ | fail
   have e1 : Blk w5 w.heap.size 65 [.slice none 0 0] := (b1.keep n4.keep (by simp)).keep hk5 (by simp; omega)
   have e2 : Blk w5 w1.heap.size 44 [.int .i64 0] := (b2.keep n4.keep (by simp)).keep hk5 (by simp; omega)
   have e3 : Blk w5 w2.heap.size 3 [.int .i64 0] := (b3.keep n4.keep (by simp)).keep hk5 (by simp; omega)
   have k5 : Ext w w5 := k4.keep hk5 (by simp; omega)
   refine finD_pan_def (rec_pan _ _ _ _ _ _ _ e (p : Int) e1 e2 e3 (by omega) (by omega) (by omega)) fun w9 h9 => ?_
   obtain ⟨k9, c1, c2, c3⟩ := h9
   refine BI rfl (c1.cell rfl) (BI rfl (c2.cell rfl) (BI rfl (c3.cell rfl) ?_))
   refine ⟨_, _, _, rfl, k5.keep k9 (by simp; omega), ?_⟩
   rw [hm, he]
   exact ⟨rfl, rfl, rfl⟩
end Go.Proofs.YtfcgdbmoncnibaaGreatDoor
