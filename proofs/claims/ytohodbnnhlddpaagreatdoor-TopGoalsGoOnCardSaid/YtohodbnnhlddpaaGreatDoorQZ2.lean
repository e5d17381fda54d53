/- TopGoalsGoOn, part 2 of 16: rules, lemmas, walks. Conditions: none. -/
import Derived.Test.YtohodbnnhlddpaaGreatDoorQZ1
import Derived.RangeFuncIn
import Derived.Laws.IdiomStrings
import Derived.ChangeKeysEq
import Derived.Maps.RangeRun
import Derived.KernelRfl
namespace Go.Proofs.YtohodbnnhlddpaaGreatDoor
open Go.RowKit
set_option linter.unusedVariables false
section
variable {mk : Prop} [MK mk]
attribute [local semireducible] WC AO Bi BH Be Cq DN BU
variable {P : Program} {ops : Array Oper} {n : Nat} {rr : Option Nat} {Q : Exit → Act → World → Prop} {S : World → Prop}
def SemOk (rr : Option Nat) (ops : Array Oper) : Prop := ∀ (j : Nat) (o : Oper), ops[j]? = some o → ∀ ρ, Oper.semAt rr ρ o = execOp ρ o
def YR (P : Program) (ops : Array Oper) (S : World → Prop) (o : Oper) (v : Value) (a : Act) : Prop :=
 (Region.wanted o (yielded ops a.tmps) = true ∧ ∀ w, S w → (execOp a.eval o).run P w = .ok (.value v) w ∨ ((execOp a.eval o).run P w = .ok .skip w ∧ v = undef) ∨
  (∃ g j c, (execOp a.eval o).run P w = .ok (.enter g j) c ∧ Calls P g j c (fun e h => e = .returned v ∧ h = w)) ∨
  ∃ l g m H body c, (execOp a.eval o).run P w = .ok (.round l g m H body) c ∧ RoundIn Fence.wide 0 P l g m H body c (fun e h => e = .returned v ∧ h = w)) ∨
 (Region.wanted o (yielded ops a.tmps) = false ∧ v = undef)
theorem YR.same {o : Oper} {v : Value} {a c : Act} (e : YR P ops S o v a) (F : execOp c.eval o = execOp a.eval o)
  (u : Region.wanted o (yielded ops c.tmps) = Region.wanted o (yielded ops a.tmps)) : YR P ops S o v c := by
 unfold YR at *;rw [F, u];exact e
theorem rnd_depth {rr : Option Nat} : (rnd rr).depth.isSome = true → 1 ≤ 0 := fun u => by simp [rnd, Fence.wide] at u
theorem YR.wpOp {i : Nat} {o : Oper} {v : Value} {a : Act} {w : World} (z : SemOk rr ops) (p : ops[i]? = some o) (A : YR P ops S o v a) (s : S w) {K : Act → World → Prop} (h : K (a.put o.dst v) w) : wpOpIn (rnd rr) 0 P ops Q i K a w := by
 unfold Go.wpOpIn;simp only [p];rcases A with ⟨u, q⟩ | ⟨u, rfl⟩
 ·simp only [u, if_true];refine ⟨fun _ _ => trivial, ?_⟩;have D : (rnd rr).round = rr := rfl;rw [D, z i o p];rcases q w s with B | ⟨B, rfl⟩ | ⟨g, j, m, B, T⟩ | ⟨l, g, C, H, body, m, B, T⟩
  ·rw [B]; exact h
  ·rw [B]; exact h
  ·rw [B];refine ⟨rnd_depth, ?_⟩;have T : CallsIn Fence.wide (0 - 1) P g j m _ := callsIn_wide.2 T;refine CallsIn.mono (F := rnd rr) T fun e E c => ?_;obtain ⟨rfl, rfl⟩ := c;exact h
  ·rw [B];have T : RoundIn (rnd rr) (0 - 1) P l g C H body m _ := T;refine ⟨rnd_depth, RoundIn.mono T fun e E c => ?_⟩;obtain ⟨rfl, rfl⟩ := c;exact h
 ·simp only [u, Bool.false_eq_true, if_false]; exact ⟨fun _ _ => trivial, h⟩
theorem wpOp_later {j : Nat} {G F : Oper} {v : Value} (V : SemOk rr ops) (H : ops[j]? = some F) (E : G.apart ops F = true)
  (B : ∀ cs b, G.op ≠ .select cs b) (N : ∀ cs b, F.op ≠ .select cs b)
  (T : ∀ c a w, Q (.panic c) (a.put G.dst v) w → Q (.panic c) a w) {K : Act → World → Prop} {a : Act} {w : World}
  (q : YR P ops S G v a) (h : wpOpIn (rnd rr) 0 P ops Q j K (a.put G.dst v) w) :
  wpOpIn (rnd rr) 0 P ops Q j (fun A w' => YR P ops S G v A ∧ K (A.put G.dst v) w') a w := by
 obtain ⟨X, W, R⟩ := Oper.apart_spec E;have a1 : ∀ (b : Act), YR P ops S G v b → ∀ u, YR P ops S G v (b.put F.dst u) := fun b z u => z.same (execOp_put G B b F.dst u R) (wanted_put G b F.dst u R)
 have swap : ∀ (b : Act) (u : Value) w', YR P ops S G v b → K ((b.put G.dst v).put F.dst u) w' → YR P ops S G v (b.put F.dst u) ∧ K ((b.put F.dst u).put G.dst v) w' := fun b u w' z M =>
  ⟨a1 b z u, by rw [← Act.put_comm b v u W]; exact M⟩
 have a0 := wanted_put (ops := ops) F a G.dst v X;have L := execOp_put (ops := ops) F N a G.dst v X;unfold wpOpIn at h ⊢;simp only [H, a0] at h ⊢;by_cases I : Region.wanted F (yielded ops a.tmps) = true
 ·simp only [I, if_true] at h ⊢;refine ⟨fun _ _ => trivial, ?_⟩;have h := h.2;have D : (rnd rr).round = rr := rfl;rw [D, V j F H] at h ⊢;rw [L] at h;revert h;generalize (execOp a.eval F).run P w = r;intro h;cases r with
  | halt x w' => cases x <;> first | exact h.elim | exact T _ _ _ h
  | ok m w' =>
   cases m with
   | value u => exact swap a u w' q h
   | skip => exact swap a undef w' q h
   | defer d =>
    have C : YR P ops S G v { a with defers := d :: a.defers } := q.same rfl rfl;refine swap _ undef w' C ?_;rw [← Act.put_defers];exact h
   | enter g args =>
    refine ⟨rnd_depth, CallsIn.mono h.2 fun e s p => ?_⟩;cases e with
    | returned u => exact swap a u s q p
    | panicked c => exact T _ _ _ p
    | outgrown => exact p
   | row r args => exact ⟨h.1, RowsIn.mono h.2 (fun u s p => swap a u s q p)⟩
   | round l g tmps assign body =>
    refine ⟨rnd_depth, RoundIn.mono h.2 fun e s p => ?_⟩;cases e with
    | returned u => exact swap a u s q p
    | panicked c => exact T _ _ _ p
    | outgrown => exact p
   | _ => exact h.elim
 ·simp only [I] at h ⊢;exact ⟨fun _ _ => trivial, swap a undef w q h.2⟩
def wpT (rr : Option Nat) (P : Program) (ops : Array Oper) (Q : Exit → Act → World → Prop) (S : World → Prop) : Nat → Array Bool → Act → World → Prop
 | 0, listed, a, w => Region.ready .any ops listed = [] ∧ Q .normal a w
 | fuel + 1, listed, a, w => (Region.ready .any ops listed = [] → Q .normal a w) ∧
  ∀ i ∈ Region.ready .any ops listed, wpOpIn (rnd rr) 0 P ops Q i (fun e c => S c ∧ wpT rr P ops Q S fuel (listed.setIfInBounds i true) e c) a w
theorem wpT_any : ∀ (c : Nat) (N : Array Bool) (a : Act) (w : World), wpT rr P ops Q S c N a w → wpAnyIn (rnd rr) 0 P .any ops Q c N a w
 | 0, _, _, _, h => h
 | c + 1, _, _, _, h => ⟨h.1, fun i F => wpOpIn_mono (fun e l j => wpT_any c _ e l j.2) (h.2 i F)⟩
theorem wpT_mono {z : World → Prop} (D : ∀ w, z w → S w) : ∀ (c : Nat) (N : Array Bool) (a : Act) (w : World), wpT rr P ops Q z c N a w → wpT rr P ops Q S c N a w
 | 0, _, _, _, h => h
 | c + 1, _, _, _, h => ⟨h.1, fun i F => wpOpIn_mono (fun l j e => ⟨D j e.1, wpT_mono D c _ l j e.2⟩) (h.2 i F)⟩
theorem wpT_first {i : Nat} {G : Oper} {v : Value} (D : SemOk rr ops) (C : ops[i]? = some G) (M : ∀ (j : Nat) (o : Oper) cs b, ops[j]? = some o → o.op ≠ .select cs b)
  (hQ : ∀ c a w, Q (.panic c) (a.put G.dst v) w → Q (.panic c) a w) : ∀ (p : Nat) (N : Array Bool) (a : Act) (w : World),
   (∀ j F, ops[j]? = some F → j ≠ i → N.getD j true = false → (∀ e ∈ F.after, Region.binds .any e = true → e.on ≠ i) → G.apart ops F = true) →
   i ∈ Region.ready .any ops N → YR P ops S G v a → S w →
   wpT rr P ops Q S p (N.setIfInBounds i true) (a.put G.dst v) w → wpT rr P ops Q S (p + 1) N a w := by
 intro p
 induction p with
 | zero =>
  intro N a w _ B A q H;refine ⟨fun h => (by rw [h] at B; cases B), fun j z => ?_⟩;by_cases l : j = i
  ·subst l; exact A.wpOp D C q ⟨q, H⟩
  ·have := ready_mono z l;rw [H.1] at this;cases this
 | succ p ih =>
  intro N a w u B A q H;refine ⟨fun h => (by rw [h] at B; cases B), fun j z => ?_⟩;by_cases l : j = i
  ·subst l; exact A.wpOp D C q ⟨q, H⟩
  ·have X := H.2 j (ready_mono z l);obtain ⟨I, F, s, a0⟩ := mem_ready.1 z;have E := (mem_ready.1 B).1
   have a4 : ∀ e ∈ F.after, Region.binds .any e = true → e.on ≠ i := by
    intro e he hb a1;have W := a0 e he hb;rw [a1] at W;by_cases L : i < N.size
    ·simp [L] at E W; rw [E] at W; cases W
    ·simp [Array.getElem?_eq_none (Nat.le_of_not_lt L)] at W
   have W := wpOp_later D s (u j F s l I a4) (fun cs b => M i G cs b C) (fun cs b => M j F cs b s) hQ A X;refine wpOpIn_mono (fun V w' R => ⟨R.2.1, ?_⟩) W;refine ih (N.setIfInBounds j true) V w' ?_ (ready_mono B (Ne.symm l)) R.1 R.2.1 ?_
   ·intro k ok hk a2 T a3;refine u k ok hk a2 ?_ a3;by_cases m : j = k
    ·subst m; exact I
    ·rw [getD_set_ne true m] at T; exact T
   ·rw [Array.setIfInBounds_comm _ _ l];exact R.2.2
inductive DT where
 | done
 | stop
 | read (i : Nat) (t : DT)
 | alt (i : Nat) (t r : DT)
def DT.heads : DT → List Nat
 | .alt i _ r => i :: r.heads
 | _ => []
def DM (ops : Array Oper) : DT → Nat → Array Bool → Bool → Bool
 | .done, n, listed, b => !b && Nat.beq n 0 && (Region.ready .any ops listed).isEmpty
 | .stop, _, _, b => b
 | .read _ _, 0, _, _ => false
 | .read i t, n + 1, listed, b => !b && (Region.ready .any ops listed).contains i && Region.free .any ops listed i && DM ops t n (listed.setIfInBounds i true) false
 | .alt _ _ _, 0, _, _ => false
 | .alt i t r, n + 1, listed, b => (b || (Region.ready .any ops listed == (DT.alt i t r).heads)) && DM ops t n (listed.setIfInBounds i true) false && DM ops r (n + 1) listed true
def BX (P : Program) (ops : Array Oper) (Z : Fr → DS → List PanicEntry → World → Prop) (K : Fr → DS → World → Prop) : DT → (World → Prop) → Fr → DS → World → Prop
 | .done, _, f, ds, w => K f ds w
 | .stop, _, _, _, _ => True
 | .read i r, S, f, ds, w => ∃ o d v, ops[i]? = some o ∧ o.dst = some d ∧
   (∀ W, S W → AO P ops (fun _ _ _ _ => False) (fun e I c => e = upd f d v ∧ I = ds ∧ c = W) [o] f ds W) ∧ BX P ops Z K r S (upd f d v) ds w
 | .alt i t r, S, f, ds, w => (∃ o, ops[i]? = some o ∧ AO P ops Z (fun e I c => ∃ z : World → Prop, (∀ W, z W → S W) ∧ z c ∧ BX P ops Z K t z e I c) [o] f ds w) ∧ BX P ops Z K r S f ds w
theorem upd_inj {f : Fr} {d : Nat} {u v : Value} (h : upd f d u = upd f d v) : u = v := by
 have := congrFun h d;simpa [upd] using this
theorem YR_of {o : Oper} {d : Nat} {v : Value} {a : Act} (C : o.dst = some d) {q : World} (B : S q)
  (h : ∀ W, S W → AO P ops (fun _ _ _ _ => False) (fun A I w' => A = upd (CM a) d v ∧ I = a.defers ∧ w' = W) [o] (CM a) a.defers W) : YR P ops S o v a := by
 unfold YR;rw [wanted_toFr];by_cases p : A7 ops (CM a) o.guard = true
 ·refine .inl ⟨p, fun w L => ?_⟩;have X := h w L;unfold AO at X;rw [if_pos p] at X;unfold BU at X;rw [ev_toFr];revert X;generalize (execOp (ev (CM a)) o).run P w = r;intro X;cases r with
  | halt x w' => cases x <;> exact X.elim
  | ok m w' =>
   cases m with
   | value u =>
    obtain ⟨j, _, z⟩ := X;simp only [C, putF] at j;rw [upd_inj j, z];exact .inl rfl
   | skip =>
    obtain ⟨j, _, z⟩ := X;simp only [C, putF] at j;rw [← upd_inj j, z];exact .inr (.inl ⟨rfl, rfl⟩)
   | defer d' =>
    obtain ⟨_, s, _⟩ := X;exact absurd s O
   | enter g args =>
    refine .inr (.inr (.inl ⟨g, args, w', rfl, Calls.mono X fun e D F => ?_⟩));cases e with
    | returned u =>
     obtain ⟨j, _, z⟩ := F;simp only [C, putF] at j;exact ⟨by rw [upd_inj j], z⟩
    | panicked c => exact F.elim
    | outgrown => exact F.elim
   | round l g tmps assign body =>
    refine .inr (.inr (.inr ⟨l, g, tmps, assign, body, w', rfl, RoundIn.mono X fun e D F => ?_⟩));cases e with
    | returned u =>
     obtain ⟨j, _, z⟩ := F;simp only [C, putF] at j;exact ⟨by rw [upd_inj j], z⟩
    | panicked c => exact F.elim
    | outgrown => exact F.elim
   | _ => exact X.elim
 ·have L : A7 ops (CM a) o.guard = false := by simpa using p
  refine .inr ⟨L, ?_⟩;have X := h q B;unfold AO at X;rw [if_neg p] at X;obtain ⟨j, _⟩ := X;simp only [C, putF] at j;exact (upd_inj j).symm
theorem wpOp_of_WOps {n : Nat} {Q : DQ} {K : Fr → DS → World → Prop} {o : Oper} {i : Nat} (F : ops[i]? = some o) {a : Act} {w : World} (G : a.tmps.size = n) (e : opOk n rr.isSome o = true)
  {K' : Act → World → Prop} (j : ∀ c w', c.tmps.size = n → K (CM c) c.defers w' → K' c w')
  (h : AO P ops (fun f ds q w => Q (.panic q) f ds w) K [o] (CM a) a.defers w) : wpOpIn (rnd rr) 0 P ops (liftQ n Q) i K' a w := by
 have C : dOk n o.dst = true := by have := e; simp only [opOk, Bool.and_eq_true] at this; exact this.1
 have next := next_of (n := n) (o := o) (a := a) (K := K) (K' := K') G C j
 unfold wpOpIn;simp only [F, wanted_toFr];unfold AO at h;by_cases u : A7 ops (CM a) o.guard = true
 ·simp only [u, if_true] at h ⊢;exact uponIn_of (r := rr) G e next h
 ·simp only [u] at h ⊢;exact ⟨fun _ _ => trivial, next undef a.defers w h⟩
theorem semOk_of {n : Nat} (c : ops.toList.all (opOk n rr.isSome) = true) : SemOk rr ops := fun j o ho ρ =>
 semAt_ok (n := n) (List.all_eq_true.1 c o (by simpa using Array.mem_of_getElem? ho)) ρ
theorem D_sound {n : Nat} {Q : DQ} (B : Region.noSelect ops = true) (u : ops.toList.all (opOk n rr.isSome) = true) (T : ∀ c f F ds w, Q (.panic c) f ds w → Q (.panic c) F ds w) :
  ∀ (M : DT) (e : Nat) (N : Array Bool) (b : Bool) (S : World → Prop) (a : Act) (w : World), DM ops M e N b = true → a.tmps.size = n → S w →
   BX P ops (fun f ds q w => Q (.panic q) f ds w) (Q .normal) M S (CM a) a.defers w →
   (b = false → wpT rr P ops (liftQ n Q) S e N a w) ∧
   (∀ k, e = k + 1 → ∀ j ∈ M.heads, wpOpIn (rnd rr) 0 P ops (liftQ n Q) j (fun m w' => S w' ∧ wpT rr P ops (liftQ n Q) S k (N.setIfInBounds j true) m w') a w)
 | .done, e, N, b, S, a, w, hc, hn, hS, h => by
  simp only [DM, Bool.and_eq_true, List.isEmpty_iff, Bool.not_eq_true'] at hc;obtain ⟨⟨rfl, W⟩, R⟩ := hc;obtain rfl := Nat.eq_of_beq_eq_true W;exact ⟨fun _ => ⟨R, hn, h⟩, fun _ _ j l => by simp [DT.heads] at l⟩
 | .stop, e, N, b, S, a, w, hc, hn, hS, h => by
  simp only [DM] at hc;subst hc;exact ⟨(fun h => by cases h), fun _ _ j l => by simp [DT.heads] at l⟩
 | .read i r, 0, N, b, S, a, w, hc, hn, hS, h => by simp [DM] at hc
 | .read i r, e + 1, N, b, S, a, w, hc, hn, hS, h => by
  simp only [DM, Bool.and_eq_true, Bool.not_eq_true'] at hc;obtain ⟨⟨⟨s, X⟩, W⟩, R⟩ := hc;obtain ⟨o, d, v, p, C, hy, E⟩ := h;have I : opOk n rr.isSome o = true := List.all_eq_true.1 u o (by simpa using Array.mem_of_getElem? p);have A : dOk n o.dst = true := by have := I; simp only [opOk, Bool.and_eq_true] at this; exact this.1
  have a0 : d < a.tmps.size := by rw [C] at A; simpa [dOk, Nat.blt_eq, hn] using A
  have a2 : ∀ c (m : Act) (w' : World), liftQ n Q (.panic c) (m.put o.dst v) w' → liftQ n Q (.panic c) m w' := fun c m w' H =>
   ⟨by simpa [size_put] using H.1, T c _ _ _ _ (by have := H.2; rw [defers_put] at this; exact this)⟩
  refine ⟨fun _ => wpT_first (semOk_of u) p (Region.noSelect_spec B) a2 e N a w (Region.free_spec p W) (by simpa using X) (YR_of C hS hy) hS ?_, fun _ _ j l => by simp [DT.heads] at l⟩;refine (D_sound B u T r e _ false S (a.put o.dst v) w R (by rw [size_put]; exact hn) hS ?_).1 rfl;rw [defers_put, C, toFr_put v a0];exact E
 | .alt i t r, 0, N, b, S, a, w, hc, hn, hS, h => by simp [DM] at hc
 | .alt i t r, e + 1, N, b, S, a, w, hc, hn, hS, h => by
  simp only [DM, Bool.and_eq_true] at hc;obtain ⟨⟨X, W⟩, R⟩ := hc;obtain ⟨⟨o, p, E⟩, a3⟩ := h;have A : opOk n rr.isSome o = true := List.all_eq_true.1 u o (by simpa using Array.mem_of_getElem? p)
  have V : ∀ j ∈ (DT.alt i t r).heads, wpOpIn (rnd rr) 0 P ops (liftQ n Q) j (fun m w' => S w' ∧ wpT rr P ops (liftQ n Q) S e (N.setIfInBounds j true) m w') a w := by
   intro j l;simp only [DT.heads, List.mem_cons] at l;rcases l with rfl | l
   ·refine wpOp_of_WOps p hn A ?_ E;rintro m w' a1 ⟨z, D, L, C⟩;exact ⟨D w' L, wpT_mono D _ _ _ _ ((D_sound B u T t e _ false z m w' W a1 L C).1 rfl)⟩
   ·exact (D_sound B u T r (e + 1) N true S a w R hn hS a3).2 e rfl j l
  refine ⟨fun G => ?_, fun k E j l => ?_⟩
  ·subst G;simp only [Bool.false_or, beq_iff_eq] at X;exact ⟨fun s => (by rw [s] at X; simp [DT.heads] at X), fun j l => V j (by rw [← X]; exact l)⟩
  ·obtain rfl : e = k := by omega
   exact V j l
theorem C_drawS {n : Cf} {Q : DQ} {id : Nat} {l : List Oper} {f : Fr} {ds : DS} {w : World} (M : DT) (S : World → Prop) (A : P.follows .mixedOrders = true)
  (T : (Region.noSelect l.toArray && (l.all (opOk n.n n.r.isSome)) && DM l.toArray M l.length (Array.replicate l.length false) false) = true)
  (j : ∀ c f e ds w, Q (.panic c) f ds w → Q (.panic c) e ds w) (m : S { w with drawn := w.drawn + 1 })
  (h : BX P l.toArray (fun f ds q w => Q (.panic q) f ds w) (Q .normal) M S f ds { w with drawn := w.drawn + 1 }) : WC P n (.region id l.toArray true) Q f ds w := by
 simp only [Bool.and_eq_true] at T;obtain ⟨⟨X, W⟩, R⟩ := T;rintro a G rfl rfl;refine wpIn_region_any A (wpT_any (S := S) _ _ _ _ ?_);have := (D_sound (P := P) (rr := n.r) (ops := l.toArray) X (by simpa using W) j M _ _ false S a _ R G m h).1 rfl;simpa using this
section
variable {Z : Fr → DS → List PanicEntry → World → Prop} {K : Fr → DS → World → Prop} {r t : DT} {f : Fr} {ds : DS} {w : World} {i d : Nat} {o : Oper} {v : Value}
theorem Cb (h : K f ds w) : BX P ops Z K .done S f ds w := h
theorem D_R (e : ops[i]? = some o) (C : o.dst = some d) (j : ∀ W, S W → AO P ops (fun _ _ _ _ => False) (fun c I w' => c = upd f d v ∧ I = ds ∧ w' = W) [o] f ds W)
  (h : BX P ops Z K r S (upd f d v) ds w) : BX P ops Z K (.read i r) S f ds w := ⟨o, d, v, e, C, j, h⟩
theorem D_E (e : ops[i]? = some o) (h : AO P ops Z (fun c I w' => ∃ z : World → Prop, (∀ W, z W → S W) ∧ z w' ∧ BX P ops Z K t z c I w') [o] f ds w) :
  BX P ops Z K (.alt i t .stop) S f ds w := ⟨⟨o, e, h⟩, trivial⟩
theorem D_A (j : ops[i]? = some o) (h : AO P ops Z (fun c I w' => ∃ z : World → Prop, (∀ W, z W → S W) ∧ z w' ∧ BX P ops Z K t z c I w') [o] f ds w) (e : BX P ops Z K r S f ds w) :
  BX P ops Z K (.alt i t r) S f ds w := ⟨⟨o, j, h⟩, e⟩
theorem DR (c : ops[i]? = some o) (C : o.dst = some d) (z : A7 ops f o.guard = true) (B : ∀ W, (execOp (ev f) o).run P W = .ok (.value v) W) (h : BX P ops Z K r S (upd f d v) ds w) : BX P ops Z K (.read i r) S f ds w := by
 refine D_R c C (fun W _ => ?_) h;unfold AO;rw [if_pos z];unfold BU;rw [B W];exact ⟨by rw [C]; rfl, rfl, rfl⟩
theorem BI {j : Nat} {V : Bool} (c : ops[i]? = some o) (C : o.dst = some d) (z : o.guard = some (j, V)) (q : guardVal ops f j = some (!V)) (h : BX P ops Z K r S (upd f d undef) ds w) : BX P ops Z K (.read i r) S f ds w := by
 refine D_R c C (fun W _ => ?_) h;unfold AO;have e : A7 ops f o.guard = false := by rw [z]; simp only [A7, q]; cases V <;> rfl
 rw [e];exact ⟨by rw [C]; rfl, rfl, rfl⟩
section cmp
variable {xt yt ty : TypeId} {x y : Operand} {k : IntKind} {a b : Int} {pos : String} {af : Array Edge} {g : Option (Nat × Bool)}
theorem D_lss (c : ops[i]? = some ⟨some d, .binOp .lss xt x y yt, ty, pos, af, g⟩) (z : A7 ops f g = true) (V : ev f x = .int k a) (e : ev f y = .int k b)
  (h : a < b → BX P ops Z K r S (upd f d (.bool true)) ds w) (I : b ≤ a → BX P ops Z K r S (upd f d (.bool false)) ds w) : BX P ops Z K (.read i r) S f ds w := by
 by_cases T : a < b
 ·exact Ea
 ·exact Eo
theorem D_leq (c : ops[i]? = some ⟨some d, .binOp .leq xt x y yt, ty, pos, af, g⟩) (z : A7 ops f g = true) (V : ev f x = .int k a) (e : ev f y = .int k b)
  (h : a ≤ b → BX P ops Z K r S (upd f d (.bool true)) ds w) (I : b < a → BX P ops Z K r S (upd f d (.bool false)) ds w) : BX P ops Z K (.read i r) S f ds w := by
 by_cases T : a ≤ b
 ·exact Ea
 ·exact Eo
theorem D_gtr (c : ops[i]? = some ⟨some d, .binOp .gtr xt x y yt, ty, pos, af, g⟩) (z : A7 ops f g = true) (V : ev f x = .int k a) (e : ev f y = .int k b)
  (h : b < a → BX P ops Z K r S (upd f d (.bool true)) ds w) (I : a ≤ b → BX P ops Z K r S (upd f d (.bool false)) ds w) : BX P ops Z K (.read i r) S f ds w := by
 by_cases T : b < a
 ·exact Ea
 ·exact Eo
theorem D_geq (c : ops[i]? = some ⟨some d, .binOp .geq xt x y yt, ty, pos, af, g⟩) (z : A7 ops f g = true) (V : ev f x = .int k a) (e : ev f y = .int k b)
  (h : b ≤ a → BX P ops Z K r S (upd f d (.bool true)) ds w) (I : a < b → BX P ops Z K r S (upd f d (.bool false)) ds w) : BX P ops Z K (.read i r) S f ds w := by
 by_cases T : b ≤ a
 ·exact Ea
 ·exact Eo
theorem D_eql (c : ops[i]? = some ⟨some d, .binOp .eql xt x y yt, ty, pos, af, g⟩) (z : A7 ops f g = true) (V : ev f x = .int k a) (e : ev f y = .int k b)
  (h : a = b → BX P ops Z K r S (upd f d (.bool true)) ds w) (I : a ≠ b → BX P ops Z K r S (upd f d (.bool false)) ds w) : BX P ops Z K (.read i r) S f ds w := by
 by_cases T : a = b
 ·exact Ea
 ·exact DR c rfl z (fun W => by simp [execOp, V, e, eqGuard, binOp, Op.intCmp, T]) (I T)
theorem D_neq (c : ops[i]? = some ⟨some d, .binOp .neq xt x y yt, ty, pos, af, g⟩) (z : A7 ops f g = true) (V : ev f x = .int k a) (e : ev f y = .int k b)
  (h : a ≠ b → BX P ops Z K r S (upd f d (.bool true)) ds w) (I : a = b → BX P ops Z K r S (upd f d (.bool false)) ds w) : BX P ops Z K (.read i r) S f ds w := by
 by_cases T : a = b
 ·exact DR c rfl z (fun W => by simp [execOp, V, e, eqGuard, binOp, Op.intCmp, T]) (I T)
 ·exact Ea
theorem D_seql {s t : LU} (c : ops[i]? = some ⟨some d, .binOp .eql xt x y yt, ty, pos, af, g⟩) (z : A7 ops f g = true) (V : ev f x = AI s) (e : ev f y = AI t)
  (h : s = t → BX P ops Z K r S (upd f d (.bool true)) ds w) (I : s ≠ t → BX P ops Z K r S (upd f d (.bool false)) ds w) : BX P ops Z K (.read i r) S f ds w := by
 by_cases T : s = t
 ·exact DR c rfl z (fun W => by simp [execOp, V, e, eqGuard, binOp, Op.stringOp, T]) (h T)
 ·exact DR c rfl z (fun W => by simp [execOp, V, e, eqGuard, binOp, Op.stringOp, T]) (I T)
theorem D_sneq {s t : LU} (c : ops[i]? = some ⟨some d, .binOp .neq xt x y yt, ty, pos, af, g⟩) (z : A7 ops f g = true) (V : ev f x = AI s) (e : ev f y = AI t)
  (h : s ≠ t → BX P ops Z K r S (upd f d (.bool true)) ds w) (I : s = t → BX P ops Z K r S (upd f d (.bool false)) ds w) : BX P ops Z K (.read i r) S f ds w := by
 by_cases T : s = t
 ·exact DR c rfl z (fun W => by simp [execOp, V, e, eqGuard, binOp, Op.stringOp, T]) (I T)
 ·exact DR c rfl z (fun W => by simp [execOp, V, e, eqGuard, binOp, Op.stringOp, T]) (h T)
end cmp
end
theorem C_draw {n : Cf} {Q : DQ} {id : Nat} {l : List Oper} {f : Fr} {ds : DS} {w : World} (M : DT) (A : P.follows .mixedOrders = true)
  (p : (Region.noSelect l.toArray && (l.all (opOk n.n n.r.isSome)) && DM l.toArray M l.length (Array.replicate l.length false) false) = true)
  (T : ∀ c f j ds w, Q (.panic c) f ds w → Q (.panic c) j ds w)
  (h : ∀ e, Ext w e → e.heap = w.heap → ∃ S : World → Prop, S e ∧ BX P l.toArray (fun f ds q w => Q (.panic q) f ds w) (Q .normal) M S f ds e) : WC P n (.region id l.toArray true) Q f ds w := by
 obtain ⟨S, m, C⟩ := h { w with drawn := w.drawn + 1 } ⟨rfl, rfl, rfl, Nat.le_refl _, fun _ _ _ => rfl, fun _ => mark_heap rfl, Nat.le_succ _⟩ rfl;exact C_drawS M S A p T m C
theorem AW {n : Cf} {Q : DQ} {id : Nat} {l : List Oper} {f : Fr} {ds : DS} {w : World} (M : DT) (A : P.follows .mixedOrders = true)
  (T : (Region.noSelect l.toArray && (l.all (opOk n.n n.r.isSome)) && DM l.toArray M l.length (Array.replicate l.length false) false) = true)
  (h : ∀ c, Ext w c → c.heap = w.heap → ∃ S : World → Prop, S c ∧ BX P l.toArray (fun _ _ _ _ => False) (Q .normal) M S f ds c) : WC P n (.region id l.toArray true) Q f ds w := by
 have := C_draw (P := P) (n := n) (Q := fun e f ds w => match e with | .normal => Q .normal f ds w | _ => False) (id := id) M A T (fun _ _ _ _ _ h => h) h;rintro a G rfl rfl;refine wpIn_mono (this a G rfl rfl) ?_;intro e a w H;obtain ⟨X, W⟩ := H;cases e with
 | normal => exact ⟨X, W⟩
 | _ => exact W.elim
theorem nofr_fin {fn : Func} {R : Value → World → Prop} {Y : List PanicEntry → World → Prop} : ∀ c f e ds w, Cq P fn R Y (.panic c) f ds w → Cq P fn R Y (.panic c) e ds w := fun _ _ _ _ _ h => h
theorem nofr_then {k : Fr → DS → World → Prop} {Q : DQ} (T : ∀ c f e ds w, Q (.panic c) f ds w → Q (.panic c) e ds w) : ∀ c f e ds w, Bi k Q (.panic c) f ds w → Bi k Q (.panic c) e ds w := T
attribute [irreducible] BX
def rd : Nat → Nat → DT → DT
 | _, 0, t => t
 | i, n + 1, t => .read i (rd (i + 1) n t)
theorem wNl {P : Program} {ops : Array Oper} {Z : Fr → DS → List PanicEntry → World → Prop} {K : Fr → DS → World → Prop} {S : World → Prop} {f : Fr} {ds : DS} {w : World} {t : DT} (k : S w) (h : BX P ops Z K t S f ds w) : AO P ops Z (fun f' ds' w' => ∃ S' : World → Prop, (∀ W, S' W → S W) ∧ S' w' ∧ BX P ops Z K t S' f' ds' w') [] f ds w := AH ⟨S, fun _ h => h, k, h⟩
end
section
variable {P : Program} {all : Array Oper} {Z : Fr → DS → List PanicEntry → World → Prop} {K : Fr → DS → World → Prop} {rest : List Oper} {f : Fr} {ds : DS} {w : World}
 {d : Nat} {ty : TypeId} {pos : String} {af : Array Edge} {x y : Operand} {xt yt : TypeId} {k : IntKind} {a b : Int}
theorem W_lssT (V : ev f x = .int k a) (j : ev f y = .int k b) (c : a < b) (h : AO P all Z K rest (upd f d (.bool true)) ds w) : AO P all Z K (⟨some d, .binOp .lss xt x y yt, ty, pos, af, none⟩ :: rest) f ds w := W_lss V j (fun _ => h) fun e => absurd e U
theorem W_lssF (V : ev f x = .int k a) (j : ev f y = .int k b) (c : b ≤ a) (h : AO P all Z K rest (upd f d (.bool false)) ds w) : AO P all Z K (⟨some d, .binOp .lss xt x y yt, ty, pos, af, none⟩ :: rest) f ds w := W_lss V j (fun e => absurd e U) fun _ => h
theorem W_leqT (V : ev f x = .int k a) (j : ev f y = .int k b) (c : a ≤ b) (h : AO P all Z K rest (upd f d (.bool true)) ds w) : AO P all Z K (⟨some d, .binOp .leq xt x y yt, ty, pos, af, none⟩ :: rest) f ds w := W_leq V j (fun _ => h) fun e => absurd e U
theorem W_leqF (V : ev f x = .int k a) (j : ev f y = .int k b) (c : b < a) (h : AO P all Z K rest (upd f d (.bool false)) ds w) : AO P all Z K (⟨some d, .binOp .leq xt x y yt, ty, pos, af, none⟩ :: rest) f ds w := W_leq V j (fun e => absurd e U) fun _ => h
theorem W_gtrT (V : ev f x = .int k a) (j : ev f y = .int k b) (c : b < a) (h : AO P all Z K rest (upd f d (.bool true)) ds w) : AO P all Z K (⟨some d, .binOp .gtr xt x y yt, ty, pos, af, none⟩ :: rest) f ds w := W_gtr V j (fun _ => h) fun e => absurd e U
theorem W_gtrF (V : ev f x = .int k a) (j : ev f y = .int k b) (c : a ≤ b) (h : AO P all Z K rest (upd f d (.bool false)) ds w) : AO P all Z K (⟨some d, .binOp .gtr xt x y yt, ty, pos, af, none⟩ :: rest) f ds w := W_gtr V j (fun e => absurd e U) fun _ => h
theorem W_geqT (V : ev f x = .int k a) (j : ev f y = .int k b) (c : b ≤ a) (h : AO P all Z K rest (upd f d (.bool true)) ds w) : AO P all Z K (⟨some d, .binOp .geq xt x y yt, ty, pos, af, none⟩ :: rest) f ds w := W_geq V j (fun _ => h) fun e => absurd e U
theorem W_geqF (V : ev f x = .int k a) (j : ev f y = .int k b) (c : a < b) (h : AO P all Z K rest (upd f d (.bool false)) ds w) : AO P all Z K (⟨some d, .binOp .geq xt x y yt, ty, pos, af, none⟩ :: rest) f ds w := W_geq V j (fun e => absurd e U) fun _ => h
theorem W_eqlT (V : ev f x = .int k a) (j : ev f y = .int k b) (c : a = b) (h : AO P all Z K rest (upd f d (.bool true)) ds w) : AO P all Z K (⟨some d, .binOp .eql xt x y yt, ty, pos, af, none⟩ :: rest) f ds w := W_eql V j (fun _ => h) fun e => absurd c e
theorem W_eqlF (V : ev f x = .int k a) (j : ev f y = .int k b) (c : ¬a = b) (h : AO P all Z K rest (upd f d (.bool false)) ds w) : AO P all Z K (⟨some d, .binOp .eql xt x y yt, ty, pos, af, none⟩ :: rest) f ds w := W_eql V j (fun e => absurd e c) fun _ => h
theorem W_neqT (V : ev f x = .int k a) (j : ev f y = .int k b) (c : ¬a = b) (h : AO P all Z K rest (upd f d (.bool true)) ds w) : AO P all Z K (⟨some d, .binOp .neq xt x y yt, ty, pos, af, none⟩ :: rest) f ds w := W_neq V j (fun _ => h) fun e => absurd e c
theorem W_neqF (V : ev f x = .int k a) (j : ev f y = .int k b) (c : a = b) (h : AO P all Z K rest (upd f d (.bool false)) ds w) : AO P all Z K (⟨some d, .binOp .neq xt x y yt, ty, pos, af, none⟩ :: rest) f ds w := W_neq V j (fun e => absurd c e) fun _ => h
theorem Z3 {v : Value} : AO P all Z (fun c I w' => c = upd f d v ∧ I = ds ∧ w' = w) [] (upd f d v) ds w := AH ⟨rfl, rfl, rfl⟩
end
section
variable {P : Program} {ops : Array Oper} {Z : Fr → DS → List PanicEntry → World → Prop} {K : Fr → DS → World → Prop} {S : World → Prop} {f : Fr} {ds : DS} {w : World} {i d : Nat} {r : DT} {xt yt ty : TypeId} {x y : Operand} {k : IntKind} {a b : Int} {pos : String} {af : Array Edge} {g : Option (Nat × Bool)}
theorem D_lssT (j : ops[i]? = some ⟨some d, .binOp .lss xt x y yt, ty, pos, af, g⟩) (z : A7 ops f g = true) (V : ev f x = .int k a) (l : ev f y = .int k b) (c : a < b) (h : BX P ops Z K r S (upd f d (.bool true)) ds w) : BX P ops Z K (.read i r) S f ds w := D_lss j z V l (fun _ => h) (fun e => absurd e U)
theorem D_lssF (j : ops[i]? = some ⟨some d, .binOp .lss xt x y yt, ty, pos, af, g⟩) (z : A7 ops f g = true) (V : ev f x = .int k a) (l : ev f y = .int k b) (c : b ≤ a) (h : BX P ops Z K r S (upd f d (.bool false)) ds w) : BX P ops Z K (.read i r) S f ds w := D_lss j z V l (fun e => absurd e U) fun _ => h
theorem D_gtrT (j : ops[i]? = some ⟨some d, .binOp .gtr xt x y yt, ty, pos, af, g⟩) (z : A7 ops f g = true) (V : ev f x = .int k a) (l : ev f y = .int k b) (c : b < a) (h : BX P ops Z K r S (upd f d (.bool true)) ds w) : BX P ops Z K (.read i r) S f ds w := D_gtr j z V l (fun _ => h) (fun e => absurd e U)
theorem D_gtrF (j : ops[i]? = some ⟨some d, .binOp .gtr xt x y yt, ty, pos, af, g⟩) (z : A7 ops f g = true) (V : ev f x = .int k a) (l : ev f y = .int k b) (c : a ≤ b) (h : BX P ops Z K r S (upd f d (.bool false)) ds w) : BX P ops Z K (.read i r) S f ds w := D_gtr j z V l (fun e => absurd e U) fun _ => h
theorem D_eqlT (j : ops[i]? = some ⟨some d, .binOp .eql xt x y yt, ty, pos, af, g⟩) (z : A7 ops f g = true) (V : ev f x = .int k a) (l : ev f y = .int k b) (c : a = b) (h : BX P ops Z K r S (upd f d (.bool true)) ds w) : BX P ops Z K (.read i r) S f ds w := D_eql j z V l (fun _ => h) (fun e => absurd c e)
theorem D_neqT (j : ops[i]? = some ⟨some d, .binOp .neq xt x y yt, ty, pos, af, g⟩) (z : A7 ops f g = true) (V : ev f x = .int k a) (l : ev f y = .int k b) (c : ¬a = b) (h : BX P ops Z K r S (upd f d (.bool true)) ds w) : BX P ops Z K (.read i r) S f ds w := D_neq j z V l (fun _ => h) (fun e => absurd e c)
theorem D_neqF (j : ops[i]? = some ⟨some d, .binOp .neq xt x y yt, ty, pos, af, g⟩) (z : A7 ops f g = true) (V : ev f x = .int k a) (l : ev f y = .int k b) (c : a = b) (h : BX P ops Z K r S (upd f d (.bool false)) ds w) : BX P ops Z K (.read i r) S f ds w := D_neq j z V l (fun e => absurd c e) fun _ => h
end
section
variable {mk : Prop} [MK mk]
attribute [local semireducible] WC AO Bi BH Be Cq DN BU
variable {P : Program} {all : Array Oper} {Z : Fr → DS → List PanicEntry → World → Prop} {K : Fr → DS → World → Prop} {rest : List Oper} {f : Fr} {ds : DS} {w : World}
 {d : Nat} {ty : TypeId} {pos : String} {af : Array Edge}
def Lp (w : World) (l n : Nat) (ps : List Nat) (j body : Code) (f : Fr) (c : LoopState) (h : Option Code) : Prop :=
 ∃ q a E, w.heap[l]? = some (.loop ⟨c, h, q, a, ps.toArray, j, body, E⟩) ∧ a.size = n ∧ CM { tmps := a, defers := [] } = f
theorem Lp.lt {l n : Nat} {ps : List Nat} {j body : Code} {E : LoopState} {a : Option Code} (h : Lp w l n ps j body f E a) : l < w.heap.size := by
 obtain ⟨_, _, _, h, _⟩ := h;exact (Array.getElem?_eq_some_iff.1 h).1
theorem Lp.E {X : List Nat} {w' : World} {l n : Nat} {ps : List Nat} {j body : Code} {E : LoopState} {a : Option Code} (h : Lp w l n ps j body f E a) (k : Keep X w w') (M : l ∉ X) : Lp w' l n ps j body f E a := by
 have y := h.lt;obtain ⟨q, g, c, e, W⟩ := h;exact ⟨q, g, c, (k.block l y M).trans e, W⟩
theorem run_getLoop {l : Nat} {r : Loop} (h : w.heap[l]? = some (.loop r)) : (Instr.getLoop l).run P w = .ok r w := by
 simp [Instr.getLoop, getObj, Sem.run, h]
def setO (w : World) (l : Nat) (o : Obj) : World := { w with heap := w.heap.setIfInBounds l o }
theorem run_setLoop {l : Nat} {r : Loop} (o : Obj) (h : w.heap[l]? = some (.loop r)) : (setObj l o).run P w = .ok () (setO w l o) := by
 simp [setObj, Sem.run, h, setO]
theorem setO_other (l : Nat) (o : Obj) (k : Nat) (a : k ≠ l) : (setO w l o).heap[k]? = w.heap[k]? := by
 simp only [setO]; rw [Array.getElem?_setIfInBounds_ne (by simpa [eq_comm] using a)]
theorem setO_keep (l : Nat) (o : Obj) (j : ∀ c t a, o ≠ .cells c t a) : Keep [l] w (setO w l o) := by
 refine ⟨rfl, rfl, rfl, by simp [setO], fun k _ i => setO_other l o k (by simpa using i), fun _ => mark_put (g := l) (by simp [setO]) (setO_other l o) fun c t a e => ?_, Nat.le_refl _⟩;by_cases h : l < w.heap.size
 ·have : (setO w l o).heap[l]? = some o := by simp [setO, h]
  rw [this] at e;cases e;exact absurd rfl (j c t a)
 ·rw [Array.getElem?_eq_none (by simp [setO]; omega)] at e; cases e
theorem setO_size (l : Nat) (o : Obj) : (setO w l o).heap.size = w.heap.size := by simp [setO]
theorem setO_get {l : Nat} (o : Obj) (h : l < w.heap.size) : (setO w l o).heap[l]? = some o := by simp [setO, h]
def YldP (P : Program) (S : Value) (args : LV) (w : World) (R : Value → World → Prop) (Z : List PanicEntry → World → Prop) : Prop :=
 ∃ y g a j body Q, S = .func (.yield y) #[] #[] ∧ (Instr.yield y args.toArray).run P w = .ok (.round y g a j body) Q ∧
  RoundIn Fence.wide 0 P y g a j body Q fun e c => match e with | .returned v => R v c | .panicked ch => Z ch c | .outgrown => False
theorem YldP.mono {S : Value} {args : LV} {R p : Value → World → Prop} {Y k : List PanicEntry → World → Prop} (h : YldP P S args w R Y) (B : ∀ v w', R v w' → p v w') (n : ∀ q w', Y q w' → k q w') : YldP P S args w p k := by
 obtain ⟨y, g, c, j, body, Q, X, W, a⟩ := h;refine ⟨y, g, c, j, body, Q, X, W, RoundIn.mono a fun e w' F => ?_⟩;cases e with
 | returned v => exact B v w' F
 | panicked q => exact n q w' F
 | outgrown => exact F
theorem W_yieldP {t : Nat} {S : Value} {xs : List Operand} {C : Array TypeId} {vs : LV} {R : Value → World → Prop} {Y : List PanicEntry → World → Prop}
  (I : f t = S) (H : evL f xs = vs) (T : YldP P S vs w R Y) (h : ∀ v w', R v w' → AO P all Z K rest (upd f d v) ds w') (n : ∀ q w', Y q w' → Z f ds q w') :
  AO P all Z K (⟨some d, .call ⟨.value (.tmp t), xs.toArray, C⟩, ty, pos, af, none⟩ :: rest) f ds w := by
 obtain ⟨y, g, c, j, body, Q, rfl, W, a⟩ := T
 have B : (execOp (ev f) ⟨some d, .call ⟨.value (.tmp t), xs.toArray, C⟩, ty, pos, af, none⟩).run P w = .ok (.round y g c j body) Q := by
  rw [evL_map] at H;simp only [execOp, resolve, ev, I, Deferred.ofValue, Sem.run_bind, Sem.run_pure, Result.andThen_ok, invoke];simp [H, W]
 unfold AO;simp only [A7, if_true, BU, B];refine RoundIn.mono a fun e w' F => ?_;cases e with
 | returned v => exact h v w' F
 | panicked q => exact n q w' F
 | outgrown => exact F
theorem W_yield {t : Nat} {S : Value} {xs : List Operand} {C : Array TypeId} {vs : LV} {R : Value → World → Prop}
  (I : f t = S) (H : evL f xs = vs) (T : YldP P S vs w R fun _ _ => False) (h : ∀ v w', R v w' → AO P all Z K rest (upd f d v) ds w') :
  AO P all Z K (⟨some d, .call ⟨.value (.tmp t), xs.toArray, C⟩, ty, pos, af, none⟩ :: rest) f ds w := W_yieldP I H T h fun _ _ h => h.elim
def ovz : List (Nat × Value) → Fr → Fr
 | [], f => f
 | (t, v) :: l, f => ovz l (upd f t v)
theorem size_sets : ∀ (l : List (Nat × Value)) (tmps : Array Value), (l.foldl (fun tmps (p : Nat × Value) => tmps.setIfInBounds p.1 p.2) tmps).size = tmps.size
 | [], _ => rfl
 | _ :: l, tmps => by rw [List.foldl_cons, size_sets l]; simp
theorem toFr_sets : ∀ (l : List (Nat × Value)) (tmps : Array Value), (∀ p ∈ l, p.1 < tmps.size) →
  CM { tmps := l.foldl (fun tmps (p : Nat × Value) => tmps.setIfInBounds p.1 p.2) tmps, defers := [] } = ovz l (CM { tmps := tmps, defers := [] })
 | [], _, _ => rfl
 | (t, v) :: l, tmps, h => by
  rw [List.foldl_cons, toFr_sets l _ (by intro p c; rw [Array.size_setIfInBounds]; exact h p (by simp [c]))];simp only [ovz]
  congr 1
  exact toFr_put (a := { tmps := tmps, defers := [] }) (d := t) v (h (t, v) O)
def rndQ (l n : Nat) (ps : List Nat) (j body : Code) (q : Fr) (R : Value → World → Prop) : DQ
 | .normal => fun _ _ w => (∃ E A, Lp w l n ps j body q E A) ∧ ∀ a, Keep [l] w a → a.heap.size = w.heap.size → Lp a l n ps j body q .ready none → R (.bool true) a
 | .ret => fun _ _ w => (∃ E A, Lp w l n ps j body q E A) ∧ ∀ a, Keep [l] w a → a.heap.size = w.heap.size → Lp a l n ps j body q .done (some .ret) → R (.bool false) a
 | .exit i => fun _ _ w => (∃ E A, Lp w l n ps j body q E A) ∧ ∀ a, Keep [l] w a → a.heap.size = w.heap.size → Lp a l n ps j body q .done (some (.exit i)) → R (.bool false) a
 | _ => fun _ _ _ => False
def asnQ (k : Fr → DS → World → Prop) : DQ
 | .normal => k
 | _ => fun _ _ _ => False
theorem run_endRound {l n : Nat} {ps : List Nat} {a body : Code} {q : Fr} {g : LoopState} {A : Option Code} (j : Option Code) (h : Lp w l n ps a body q g A) :
  ∃ w', (Instr.endRound l j).run P w = .ok (.bool j.isNone) w' ∧ Keep [l] w w' ∧ w'.heap.size = w.heap.size ∧ Lp w' l n ps a body q (if j.isNone then .ready else .done) j := by
 have y := h.lt;obtain ⟨c, i, E, X, W, e⟩ := h;refine ⟨setO w l _, ?_, setO_keep l _ (fun _ _ _ h => by cases h), setO_size l _, c, i, E, setO_get _ y, W, e⟩;simp only [Instr.endRound, Sem.run_bind, run_getLoop X, Result.andThen_ok, run_setLoop _ X, Sem.run_pure]
theorem run_beginRound {l n : Nat} {ps : List Nat} {j body : Code} {q : Fr} {A : Option Code} (h : Lp w l n ps j body q .ready A) :
  ∃ w', (Instr.beginRound l).run P w = .ok () w' ∧ Keep [l] w w' ∧ w'.heap.size = w.heap.size ∧ Lp w' l n ps j body q .busy A := by
 have y := h.lt;obtain ⟨a, e, E, X, W, c⟩ := h;refine ⟨setO w l _, ?_, setO_keep l _ (fun _ _ _ h => by cases h), setO_size l _, a, e, E, setO_get _ y, W, c⟩;simp only [Instr.beginRound, Sem.run_bind, run_getLoop X, Result.andThen_ok, run_setLoop _ X, Sem.run_pure]
theorem yld_of_wc {l n : Nat} {ps : List Nat} {j body : Code} {q : Fr} {pd : Option Code} {args : LV} {R : Value → World → Prop} {Y : List PanicEntry → World → Prop} (M : Lp w l n ps j body q .ready pd)
  (hp : args.length = ps.length) (a1 : ps.all (fun t => Nat.blt t n) = true) (s : (CR n true j && CR n true body) = true)
  (h : WC P ⟨n, some l⟩ j (asnQ fun g I w' => Lp w' l n ps j body q .ready none ∧ ∀ L, Keep [l] w' L → L.heap.size = w'.heap.size → (∃ E a3, Lp L l n ps j body q E a3) → WC P ⟨n, some l⟩ body (rndQ l n ps j body q R) g I L) (ovz (ps.zip args) q) [] w) :
  YldP P (.func (.yield l) #[] #[]) args w R Y := by
 obtain ⟨B, c, a4, X, y, C⟩ := M;have a2 : ¬ args.toArray.size ≠ ps.toArray.size := by simp [hp]
 refine ⟨l, B, ((ps.zip args).foldl (fun c (p : Nat × Value) => c.setIfInBounds p.1 p.2) c), j, body, w, rfl, ?_, ?_⟩
 ·simp only [Instr.yield, Sem.run_bind, run_getLoop X, Result.andThen_ok, if_neg a2, Sem.run_pure]
  congr 2
  rw [← Array.foldl_toList];simp
 ·simp only [Bool.and_eq_true] at s;refine RoundIn.mono (R := endR R Y) (roundIn_of_wpIn (F := Fence.wide) trivial ?_) (fun e a5 V => by cases e <;> exact V);have H : (ps.zip args).foldl (fun c (p : Nat × Value) => c.setIfInBounds p.1 p.2) c = (ps.zip args).foldl (fun c (p : Nat × Value) => c.setIfInBounds p.1 p.2) c := rfl;have D : Fence.wide.inRound l = rnd (some l) := rfl;rw [D]
  refine wpIn_mono (By (P := P) (n := ⟨n, some l⟩) j _ _ w ?_ s.1 (by
   rw [toFr_sets, C]
   ·exact h
   ·intro p a0;have := List.all_eq_true.1 a1 p.1 (List.of_mem_zip a0).1;rw [y]; simpa [Nat.blt_eq] using this)) ?_
  ·simp only [size_sets]; exact y
  ·intro e a w' H;obtain ⟨hn, H⟩ := H;cases e with
   | normal =>
    obtain ⟨hr, S⟩ := H;obtain ⟨L, G, N, Q, T⟩ := run_beginRound (P := P) hr;refine ⟨L, G, ?_⟩;refine wpIn_mono (By (P := P) (n := ⟨n, some l⟩) body _ a L hn s.2 (S L N Q ⟨_, _, T⟩)) ?_;intro e a' w3 H;obtain ⟨_, H⟩ := H;cases e with
    | normal =>
     obtain ⟨⟨E, A, r⟩, o⟩ := H;obtain ⟨k, m, x, z, W⟩ := run_endRound (P := P) none r;exact ⟨_, k, m, o k x z W⟩
    | ret =>
     obtain ⟨⟨E, A, r⟩, o⟩ := H;obtain ⟨k, m, x, z, W⟩ := run_endRound (P := P) (some .ret) r;exact ⟨_, k, m, o k x z W⟩
    | exit i =>
     obtain ⟨⟨E, A, r⟩, o⟩ := H;obtain ⟨k, m, x, z, W⟩ := run_endRound (P := P) (some (.exit i)) r;exact ⟨_, k, m, o k x z W⟩
    | goto _ => exact H.elim
    | panic _ => exact H.elim
    | outgrown => exact H.elim
   | _ => exact H.elim
def behind (Q : DQ) (f : Fr) (ds : DS) (w : World) : Option Code → Prop
 | none => Q .normal f ds w
 | some .ret => Q .ret f ds w
 | some (.exit i) => Q (.exit i) f ds w
 | _ => False
theorem run_endLoop {l n : Nat} {ps : List Nat} {j body : Code} {q : Fr} {E : LoopState} {A : Option Code} (e : (E == .busy) = false) (h : Lp w l n ps j body q E A) :
  ∃ w', (Instr.endLoop l).run P w = .ok A w' ∧ Keep [l] w w' ∧ w'.heap.size = w.heap.size := by
 obtain ⟨c, g, a, X, W, i⟩ := h;refine ⟨setO w l (.loop ⟨.exhausted, A, c, g, ps.toArray, j, body, a⟩), ?_, setO_keep l _ (fun _ _ _ h => by cases h), setO_size l _⟩;simp only [Instr.endLoop, Sem.run_bind, run_getLoop X, Result.andThen_ok, e, Bool.false_eq_true, if_false, run_setLoop _ X, Sem.run_pure]
theorem C_rangeFunc {n : Nat} {Q : DQ} {g : Operand} {ps : List Nat} {j body : Code} {y : FuncId} {v1 v2 : LV} [hg : AD P y] (hv : ev f g = .func (.func y) v1.toArray v2.toArray)
  (h : ∀ l, Ext w l → l.heap.size = w.heap.size + 2 → l.heap[w.heap.size]? = some (.deferred (some [])) → Lp l (w.heap.size + 1) n ps j body f .ready none →
   FnP P y (v1 ++ [.func (.yield (w.heap.size + 1)) #[] #[]] ++ v2) l
    (fun _ m => ∃ E A, Lp m (w.heap.size + 1) n ps j body f E A ∧ (E == .busy) = false ∧
     ∀ p, Keep [w.heap.size + 1] m p → p.heap.size = m.heap.size → behind Q f ({ target := .collected w.heap.size, args := #[] } :: ds) p A)
    (fun q m => Q (.panic q) f ({ target := .collected w.heap.size, args := #[] } :: ds) m)) :
  WC P ⟨n, none⟩ (.rangeFunc g ps.toArray j body) Q f ds w := by
 rintro a G rfl rfl;obtain ⟨fn, r, M, N⟩ := hg.out;refine wpIn_rangeFunc fun C _ => ?_;have s := ev_toFr a
 let l : World := (w.alloc (.deferred (some []))).alloc (.loop ⟨.ready, none, C, a.tmps, ps.toArray, j, body, w.heap.size⟩)
 have k1 : Ext w l := ⟨rfl, rfl, rfl, by simp [l]; omega, fun k B _ => by
  have := heap_alloc_old w (.deferred (some [])) B;rw [← this]
  exact heap_alloc_old _ _ Dl, fun _ b S => mark_new (w := w.alloc (.deferred (some []))) (by simp [l]) (fun k B => heap_alloc_old _ _ B) (fun c t L e => by rw [heap_alloc_new] at e; cases e) b fun _ =>
   mark_new (w := w) O (fun k B => heap_alloc_old _ _ B) (fun c t L e => by rw [heap_alloc_new] at e; cases e) b S, Nat.le_refl _⟩
 have s1 : l.heap.size = w.heap.size + 2 := by simp [l]
 have H : l.heap[w.heap.size]? = some (.deferred (some [])) := by
  have := heap_alloc_new w (.deferred (some []));rw [← this];exact heap_alloc_old _ _ O
 have l1 : l.heap[w.heap.size + 1]? = some (.loop ⟨.ready, none, C, a.tmps, ps.toArray, j, body, w.heap.size⟩) := by
  have := heap_alloc_new (w.alloc (.deferred (some []))) (.loop ⟨.ready, none, C, a.tmps, ps.toArray, j, body, w.heap.size⟩);simpa [l] using this
 refine ⟨w.heap.size + 1, [{ target := .collected w.heap.size, args := #[] }], l, { target := .fn (.func y) v2.toArray, args := v1.toArray ++ #[Value.func (.yield (w.heap.size + 1)) #[] #[]] }, l, y, (v1 ++ [Value.func (.yield (w.heap.size + 1)) #[] #[]] ++ v2).toArray, l, ?_, ?_, fun _ _ => trivial, ?_, rnd_depth, ?_⟩
 ·have D : ∀ o (w : World), (newObj o).run P w = .ok w.heap.size (w.alloc o) := fun _ _ => rfl;simp only [Instr.enterLoop, rnd, Sem.run_bind, D, Sem.run_pure, Result.andThen_ok, l];simp
 ·rw [s];have I : ∀ v, ev (CM a) (.const v) = v := fun _ => rfl;simp [resolve, hv, I, Deferred.ofValue]
 ·simp only [invoke, callFunc, program];simp [Sem.run, r, M, N]
 ·have hf := h l k1 s1 H ⟨C, a.tmps, _, l1, G, rfl⟩;have V : CallsIn Fence.wide (0 - 1) P y _ l _ := callsIn_wide.2 hf;refine CallsIn.mono (F := rnd none) V fun e m s => ?_;cases e with
  | returned v =>
   obtain ⟨E, A, X, W, T⟩ := s;obtain ⟨p, D, x, z⟩ := run_endLoop (P := P) W X;refine ⟨A, p, D, ?_⟩;have S := T p x z;cases A with
   | none => exact ⟨G, S⟩
   | some c =>
    cases c with
    | ret => exact wpIn_ret ⟨G, S⟩
    | exit i => exact wpIn_exit ⟨G, S⟩
    | _ => exact S.elim
  | panicked q => exact ⟨G, s⟩
  | outgrown => exact s.elim
def rndA (l : Nat) (k j : World → Prop) (c : Code → World → Prop) (R : Value → World → Prop) : DQ
 | .normal => fun _ _ w => j w ∧ ∀ a, Keep [l] w a → a.heap.size = w.heap.size → k a → R (.bool true) a
 | .ret => fun _ _ w => j w ∧ ∀ a, Keep [l] w a → a.heap.size = w.heap.size → c .ret a → R (.bool false) a
 | .exit i => fun _ _ w => j w ∧ ∀ a, Keep [l] w a → a.heap.size = w.heap.size → c (.exit i) a → R (.bool false) a
 | _ => fun _ _ _ => False
theorem Q_asn {k : Fr → DS → World → Prop} (h : k f ds w) : asnQ k .normal f ds w := h
theorem Q_rnd {l : Nat} {k j : World → Prop} {i : Code → World → Prop} {R : Value → World → Prop} (S : j w) (h : ∀ w', Keep [l] w w' → w'.heap.size = w.heap.size → k w' → R (.bool true) w') : rndA l k j i R .normal f ds w := ⟨S, h⟩
theorem Q_rnd_ret {l : Nat} {k j : World → Prop} {i : Code → World → Prop} {R : Value → World → Prop} (S : j w) (h : ∀ w', Keep [l] w w' → w'.heap.size = w.heap.size → i .ret w' → R (.bool false) w') : rndA l k j i R .ret f ds w := ⟨S, h⟩
theorem Q_rnd_exit {l i : Nat} {k j : World → Prop} {a : Code → World → Prop} {R : Value → World → Prop} (S : j w) (h : ∀ w', Keep [l] w w' → w'.heap.size = w.heap.size → a (.exit i) w' → R (.bool false) w') : rndA l k j a R (.exit i) f ds w := ⟨S, h⟩
structure Loops (P : Program) (n l : Nat) (ps : List Nat) (asn body : Code) (f : Fr) (Rdy Bsy : World → Prop) (Don : Code → World → Prop) : Prop where
 rdy : ∀ {X : List Nat} {w w' : World}, Rdy w → Keep X w w' → l ∉ X → Rdy w'
 bsy : ∀ {X : List Nat} {w w' : World}, Bsy w → Keep X w w' → l ∉ X → Bsy w'
 don : ∀ {X : List Nat} {w w' : World} {c : Code}, Don c w → Keep X w w' → l ∉ X → Don c w'
 lt : ∀ {w : World}, Rdy w → l < w.heap.size
 nocell : ∀ {w : World}, Rdy w → ∀ o, w.cell? ⟨l, o, none⟩ = none
 round : ∀ {args : LV} {R : Value → World → Prop} {Y : List PanicEntry → World → Prop} {w : World}, Rdy w → args.length = ps.length →
  WC P ⟨n, some l⟩ asn (asnQ fun f' ds' w' => Rdy w' ∧ ∀ w2, Keep [l] w' w2 → w2.heap.size = w'.heap.size → Bsy w2 → WC P ⟨n, some l⟩ body (rndA l Rdy Bsy Don R) f' ds' w2) (ovz (ps.zip args) f) [] w →
  YldP P (.func (.yield l) #[] #[]) args w R Y
theorem C_range {n : Nat} {Q : DQ} {g : Operand} {ps : List Nat} {j body : Code} {s : FuncId} (v1 v2 : LV) [hg : AD P s] (q : ev f g = .func (.func s) v1.toArray v2.toArray)
  (z : (ps.all (fun t => Nat.blt t n) && (CR n true j && CR n true body)) = true)
  (h : ∀ (k B : World → Prop) (i : Code → World → Prop) (m : World), Loops P n (w.heap.size + 1) ps j body f k B i → Ext w m → m.heap.size = w.heap.size + 2 → m.heap[w.heap.size]? = some (.deferred (some [])) → k m →
   Fn P s (v1 ++ [.func (.yield (w.heap.size + 1)) #[] #[]] ++ v2) m
    (fun _ r => (k r ∧ ∀ p, Keep [w.heap.size + 1] r p → p.heap.size = r.heap.size → Q .normal f ({ target := .collected w.heap.size, args := #[] } :: ds) p) ∨
     ∃ c, i c r ∧ ∀ p, Keep [w.heap.size + 1] r p → p.heap.size = r.heap.size → behind Q f ({ target := .collected w.heap.size, args := #[] } :: ds) p (some c))) :
  WC P ⟨n, none⟩ (.rangeFunc g ps.toArray j body) Q f ds w := by
 simp only [Bool.and_eq_true] at z;refine C_rangeFunc q fun m X G C F => ?_
 refine FnP.mono (h (fun l => Lp l (w.heap.size + 1) n ps j body f .ready none) (fun l => ∃ E A, Lp l (w.heap.size + 1) n ps j body f E A) (fun c l => Lp l (w.heap.size + 1) n ps j body f .done (some c)) m
  ⟨fun a b c => a.E b c, fun ⟨E, A, a⟩ b c => ⟨E, A, a.E b c⟩, fun a b c => a.E b c, fun a => a.lt, (fun a o => by obtain ⟨_, _, _, e, _⟩ := a; simp [World.cell?, e]), fun {args R Y l} hr hl hw => ?_⟩ X G C F) ?_ (fun _ _ D => D.elim)
 ·have e : rndA (w.heap.size + 1) (fun l => Lp l (w.heap.size + 1) n ps j body f .ready none) (fun l => ∃ E A, Lp l (w.heap.size + 1) n ps j body f E A) (fun c l => Lp l (w.heap.size + 1) n ps j body f .done (some c)) R = rndQ (w.heap.size + 1) n ps j body f R := by
   funext e; cases e <;> rfl
  rw [e] at hw;refine yld_of_wc hr hl z.1 (by rw [Bool.and_eq_true]; exact z.2) ?_;exact hw
 ·rintro v r (⟨a, b⟩ | ⟨c, a, b⟩)
  ·exact ⟨_, _, a, rfl, fun p x y => b p x y⟩
  ·exact ⟨_, _, a, rfl, fun p x y => b p x y⟩
theorem Cx {g : FuncId} {fn : Func} {c : Code} {args : LV} {R : Value → World → Prop} (I : P.funcs[g]? = some fn) (S : fn.body = some c) {n : Nat} (G : fn.ntmps = n) (M : args.length ≤ n) (a : CR n false c = true)
  (h : WC P ⟨n, none⟩ c (DN P fn R fun _ _ => False) (argF args) [] w) : Fn P g args w R := fnD_of_wc I S G M a h
theorem takeDeferred_ok {b : Nat} (h : w.heap[b]? = some (.deferred (some []))) : ∃ w', (Instr.takeDeferred b).run P w = .ok [] w' ∧ Keep [b] w w' ∧ w'.heap.size = w.heap.size := by
 refine ⟨setO w b (.deferred none), ?_, setO_keep b _ (fun _ _ _ h => by cases h), setO_size b _⟩;simp [Instr.takeDeferred, getObj, setObj, Sem.run, h, setO]
section
variable {fn : Func} {R : Value → World → Prop} {Y : List PanicEntry → World → Prop} {t u v b : Nat}
theorem finD_ret1 (B : fn.results.toList = [.tmp t]) (h : R (f t) w) : DN P fn R Y .ret f [] w := by
 simp only [DN, lv, B]; exact h
theorem Bt {a : Array Value} (S : w.heap[b]? = some (.deferred (some []))) (h : ∀ w', Keep [b] w w' → w'.heap.size = w.heap.size → DN P fn R Y .ret f ds w') : DN P fn R Y .ret f ({ target := .collected b, args := a } :: ds) w := by
 obtain ⟨w', X, W, c⟩ := takeDeferred_ok (P := P) S;simp only [DN];refine ⟨by simp, .inl ⟨b, w', rfl, X, h w' W c⟩⟩
end
attribute [irreducible] asnQ rndA rndQ YldP
end
section
variable {mk : Prop} [MK mk]
attribute [local semireducible] WC AO Bi BH Be Cq DN BU
variable {P : Program} {all : Array Oper} {Z : Fr → DS → List PanicEntry → World → Prop} {K : Fr → DS → World → Prop} {rest : List Oper} {f : Fr} {ds : DS} {w : World}
 {d : Nat} {ty : TypeId} {pos : String} {af : Array Edge}
end
section
variable {mk : Prop} [MK mk]
attribute [local semireducible] WC AO Bi BH Be Cq DN BU
variable {P : Program} {all : Array Oper} {Z : Fr → DS → List PanicEntry → World → Prop} {K : Fr → DS → World → Prop} {rest : List Oper} {f : Fr} {ds : DS} {w : World}
 {d : Nat} {ty : TypeId} {pos : String} {af : Array Edge}
theorem Bh {T D : TypeId} {a : Operand} {b n : Nat} {L : LV} [hT : AggT P T n] (H : ev f a = .pointer (sm b)) (S : Blk w b D L) (M : L.length = n)
  (h : AO P all Z K rest (upd f d (.agg L.toArray)) ds w) : AO P all Z K (⟨some d, .load T a, ty, pos, af, none⟩ :: rest) f ds w := AR H M S.cells h
class BoolT (P : Program) (T : TypeId) : Prop where
 out : P.underlying T = some .bool
theorem run_equal_bool {T : TypeId} [hT : BoolT P T] (a b : Bool) : (Op.equal T (.bool a) (.bool b)).run P w = .ok (a == b) w := by
 unfold Op.equal;rw [show Op.maxDepth = 9999 + 1 from rfl, run_equalIn_bool' w 9999 T a b hT.out]
theorem W_beql {T o : TypeId} {x y : Operand} {a b : Bool} [hT : BoolT P T] (V : ev f x = .bool a) (c : ev f y = .bool b) (h : AO P all Z K rest (upd f d (.bool (a == b))) ds w) : AO P all Z K (⟨some d, .binOp .eql T x y o, ty, pos, af, none⟩ :: rest) f ds w := by
 refine Aq rfl ?_ h;simp [execOp, V, c, eqGuard, binOp, run_equal_bool]
theorem W_bneq {T o : TypeId} {x y : Operand} {a b : Bool} [hT : BoolT P T] (V : ev f x = .bool a) (c : ev f y = .bool b) (h : AO P all Z K rest (upd f d (.bool (a != b))) ds w) : AO P all Z K (⟨some d, .binOp .neq T x y o, ty, pos, af, none⟩ :: rest) f ds w := by
 refine Aq rfl ?_ h;simp [execOp, V, c, eqGuard, binOp, run_equal_bool, bne]
end
section
variable {mk : Prop} [MK mk]
open Go.ChangeMaps (setBlock)
attribute [local semireducible] WC AO Bi BH Be Cq DN BU
variable {P : Program} {all : Array Oper} {Z : Fr → DS → List PanicEntry → World → Prop} {K : Fr → DS → World → Prop} {rest : List Oper} {f : Fr} {ds : DS} {w : World}
 {d : Nat} {ty : TypeId} {pos : String} {af : Array Edge}
class SMapT (P : Program) (T : TypeId) (z : outParam Value) : Prop where
 out : ∃ kt et i, P.underlying T = some (.map kt et) ∧ P.underlying kt = some .string ∧ P.info? et = some i ∧ i.zero = some z
theorem smapT_of {T h g : TypeId} {z : Value} (X : P.underlying T = some (.map h g)) (W : P.underlying h = some .string) (R : (P.info? g).map (·.zero) = some (some z)) : SMapT P T z := by
 obtain ⟨i, F, n⟩ := Option.map_eq_some_iff.1 R;exact ⟨h, g, i, X, W, F, n⟩
def encS (p : LU × Value) : Value × Value := (AI p.1, p.2)
theorem strV_inj {a b : LU} (h : AI a = AI b) : a = b := by simpa using h
def rdS (e : MapEntry) : Value × Value := (e.key, e.val)
def SMap (w : World) (r : Nat) (L : List (LU × Value)) : Prop :=
 ∃ a e, w.heap[r]? = some (.map a e) ∧ MapKept.Stamped a e ∧ a.toList.map rdS = L.map encS
theorem SMap.lt {r : Nat} {L : List (LU × Value)} (h : SMap w r L) : r < w.heap.size := by
 obtain ⟨a, c, X, _⟩ := h; exact (Array.getElem?_eq_some_iff.1 X).1
theorem SMap.E {X : List Nat} {w' : World} {r : Nat} {L : List (LU × Value)} (h : SMap w r L) (k : Keep X w w') (B : r ∉ X) : SMap w' r L := by
 obtain ⟨a, c, b, W, R⟩ := id h;exact ⟨a, c, (k.block r h.lt B).trans b, W, R⟩
theorem keys_str {a : List MapEntry} {L : List (LU × Value)} (h : a.map rdS = L.map encS) : ∀ x ∈ a, MapKept.IsKey .string x.key := by
 intro x V;have : rdS x ∈ L.map encS := by rw [← h]; exact List.mem_map.2 ⟨x, V, rfl⟩
 obtain ⟨p, _, e⟩ := List.mem_map.1 this;have : x.key = AI p.1 := (congrArg Prod.fst e).symm;rw [this]; trivial
theorem slookup_none {L : List (LU × Value)} {x : LU} (h : ∀ p ∈ L, p.1 ≠ x) : L.lookup x = none := by
 induction L with
 | nil => rfl
 | cons q L ih =>
  exact FQ
theorem slookup_at {L : List (LU × Value)} (G : (L.map (·.1)).Nodup) {p : LU × Value} (v : p ∈ L) : L.lookup p.1 = some p.2 := by
 induction L with
 | nil => cases v
 | cons q L ih =>
  simp only [List.map_cons, List.nodup_cons] at G;obtain ⟨a, b⟩ := q;rcases List.mem_cons.1 v with rfl | v
  ·simp [List.lookup]
  ·exact Fb
theorem nodup_str {r : Nat} {L : List (LU × Value)} (h : SMap w r L) : (L.map (·.1)).Nodup := by
 obtain ⟨g, c, _, ⟨_, _, W⟩, R⟩ := h
 have e : g.toList.map (·.key) = L.map (fun p => AI p.1) := by
  have := congrArg (List.map Prod.fst) R;simpa [rdS, encS, List.map_map, Function.comp_def] using this
 rw [e] at W;have i : ((L.map (·.1)).map (fun x => AI x)).Nodup := by rw [List.map_map]; exact W
 exact List.Pairwise.of_map _ (fun a b v e => v (by rw [e])) i
theorem find_str {h : TypeId} {L : List (LU × Value)} (m : P.underlying h = some .string) {b : Array MapEntry} (A : b.toList.map rdS = L.map encS) (G : (L.map (·.1)).Nodup) (x : LU) (w : World) :
  (L.lookup x = none ∧ (Instr.findKey h (AI x) b.toList).run P w = .ok none w ∧ ∀ e ∈ b.toList, e.key ≠ AI x) ∨
  ∃ i v, L.lookup x = some v ∧ (Instr.findKey h (AI x) b.toList).run P w = .ok (some (i, v)) w := by
 have n : ∀ (i : Nat) (e : MapEntry), b.toList[i]? = some e → ∃ p, L[i]? = some p ∧ e.key = AI p.1 ∧ e.val = p.2 := by
  exact Er
 rcases MapKept.findNow_spec (d := .string) (k := AI x) trivial b.toList 0 (keys_str A) with ⟨X, W⟩ | ⟨j, e, X, W, R⟩
 ·refine .inl ⟨slookup_none fun p c q => ?_, MapKept.run_findKey m X, W⟩;obtain ⟨i, o⟩ := List.getElem?_of_mem c;have := congrArg (fun l => l[i]?) A;simp only [List.getElem?_map, o, Option.map_some] at this;obtain ⟨e, F, a⟩ := Option.map_eq_some_iff.1 this;refine W e (List.mem_of_getElem? F) ?_;rw [show e.key = AI p.1 from congrArg Prod.fst a, q]
 ·obtain ⟨p, c, g, a⟩ := n j e W;rw [R] at g;have V := strV_inj g;refine .inr ⟨j, p.2, ?_, ?_⟩
  ·rw [V]; exact slookup_at G (List.mem_of_getElem? c)
  ·have := MapKept.run_findKey (P := P) (w := w) m X;rw [this, a, Nat.zero_add]
theorem W_makeMapS {T : TypeId} (h : ∀ w', Ext w w' → w'.heap.size = w.heap.size + 1 → SMap w' w.heap.size [] → AO P all Z K rest (upd f d (.map (some w.heap.size))) ds w') :
  AO P all Z K (⟨some d, .makeMap T none, ty, pos, af, none⟩ :: rest) f ds w := by
 refine Aq (v := .map (some w.heap.size)) (w' := w.alloc (.map #[] 0)) rfl ?_ (h _ ⟨rfl, rfl, rfl, by simp, fun k a _ => heap_alloc_old w _ a, fun _ => mark_new O (fun k a => heap_alloc_old w _ a) (fun c t b e => by rw [heap_alloc_new] at e; cases e), Nat.le_refl _⟩ O ⟨#[], 0, heap_alloc_new w _, MapKept.stamped_empty 0, rfl⟩);have B : (Instr.makeMap T none).run P w = .ok (.map (some w.heap.size)) (w.alloc (.map #[] 0)) := rfl;simp [execOp, B]
theorem W_lookup2S {T : TypeId} {m k : Operand} {r : Nat} {x : LU} {z : Value} {L : List (LU × Value)} [hT : SMapT P T z] (A : ev f m = .map (some r)) (c : ev f k = AI x) (D : SMap w r L)
  (h : AO P all Z K rest (upd f d (.tuple #[(L.lookup x).getD z, .bool (L.lookup x).isSome])) ds w) : AO P all Z K (⟨some d, .lookup T m k true, ty, pos, af, none⟩ :: rest) f ds w := by
 obtain ⟨s, g, i, X, W, R, o⟩ := hT.out;have G := nodup_str D;obtain ⟨l, e, S, q, p⟩ := D;refine Aq rfl ?_ h;have y := MapKept.run_checkKey (P := P) (w := w) (k := AI x) W trivial l.isEmpty 9999;have n : (zeroValue g).run P w = .ok z w := by simp [zeroValue, typeInfo, R, o]
 rcases find_str W p G x w with ⟨a, b, _⟩ | ⟨j, v, a, b⟩
 ·simp [execOp, A, c, Instr.lookup, run_underlying X, MapKept.run_getObj_map S, y, b, n, a]
 ·simp [execOp, A, c, Instr.lookup, run_underlying X, MapKept.run_getObj_map S, y, b, a]
theorem setBlkS_keep {w : World} {r : Nat} {p : Obj} (e : ∀ c t a, p ≠ .cells c t a) : Keep [r] w { w with heap := w.heap.setIfInBounds r p } :=
 ⟨rfl, rfl, rfl, by simp, fun k _ b => by simp [Ne.symm (show k ≠ r by simpa using b)], fun _ => mark_obj e, Nat.le_refl _⟩
theorem CX {T : TypeId} {m k v : Operand} {r : Nat} {x : LU} {y z : Value} {L : List (LU × Value)} [hT : SMapT P T z] (A : ev f m = .map (some r)) (p : ev f k = AI x) (q : ev f v = y) (D : SMap w r L) (V : L.lookup x = none)
  (h : ∀ w', Keep [r] w w' → w'.heap.size = w.heap.size → SMap w' r (L ++ [(x, y)]) → AO P all Z K rest f ds w') : AO P all Z K (⟨none, .insert T m k v, ty, pos, af, none⟩ :: rest) f ds w := by
 obtain ⟨u, g, i, X, W, R, t⟩ := hT.out;have G := nodup_str D;obtain ⟨n, e, S, s, c⟩ := D;have o := MapKept.run_checkKey (P := P) (w := w) (k := AI x) W trivial false 9999;rcases find_str W c G x w with ⟨a, b, l⟩ | ⟨j, B, a, b⟩
 ·refine W_skp (w' := { w with heap := w.heap.setIfInBounds r (.map (n.push { key := AI x, val := y, born := e }) (e + 1)) }) rfl ?_ (h _ (setBlkS_keep fun _ _ _ h => by cases h) O ⟨_, _, (MapKept.heap_set S).1, MapKept.stamped_push s l, ?_⟩)
  ·simp [execOp, A, p, q, Instr.mapUpdate, run_underlying X, MapKept.run_getObj_map S, o, b, MapKept.run_setObj_map _ S]
  ·rw [Array.toList_push, List.map_append, c];simp [rdS, encS]
 ·rw [a] at V; cases V
end
section
variable {mk : Prop} [MK mk]
variable {P : Program} {T : TypeId}
theorem At {n : Nat} (h : (P.info? T).map (·.size) = some n) : BQ P T n := by
 obtain ⟨i, F, D⟩ := Option.map_eq_some_iff.1 h;exact ⟨i, F, D⟩
theorem CY {n : Nat} {d : TypeDesc} (r : P.underlying T = some d) (C : aggD d = true) (h : (P.info? T).map (·.size) = some n) : AggT P T n := by
 obtain ⟨i, F, D⟩ := Option.map_eq_some_iff.1 h;exact ⟨⟨d, r, C⟩, i, F, D⟩
theorem A0 {z : Value} {L : LV} (h : (P.info? T).map (·.zero) = some (some z)) (n : z.cells = L.toArray) : Bb P T L := by
 obtain ⟨i, F, D⟩ := Option.map_eq_some_iff.1 h;exact ⟨i, z, F, D, n⟩
theorem Cn {e size N : Nat} {z : Value} (r : P.underlying T = some (.slice e)) (h : (P.info? e).map (fun i => (i.zero, i.size, i.bytes)) = some (some z, size, N)) : SlT P T e size N z := by
 obtain ⟨i, F, u⟩ := Option.map_eq_some_iff.1 h;simp only [Prod.mk.injEq] at u;exact ⟨r, i, F, u.1, u.2.1, u.2.2⟩
theorem arrT_of {s e size : Nat} (r : P.underlying T = some (.array s e)) (h : (P.info? e).map (·.size) = some size) : ArrT P T s e size := by
 obtain ⟨i, F, D⟩ := Option.map_eq_some_iff.1 h;exact ⟨r, i, F, D⟩
theorem AY {i r : Nat} {S : TypeId} {W : Array Field} {R : Field} {s : Nat} (b : P.underlying T = some (.struct W)) (I : W[i]? = some R) (f : R.offset = r) (a : R.type = S) (h : (P.info? S).map (·.size) = some (s + 1)) : Am P T i r S := by
 obtain ⟨j, y, D⟩ := Option.map_eq_some_iff.1 h;exact ⟨W, R, b, I, f, a, j, y, by omega⟩
theorem AB {g : FuncId} {fn : Func} (X : P.funcs[g]? = some fn) (W : (fn.name == "runtime.NumGoroutine") = false := by kernel_rfl) (R : fn.body.isNone = false := by kernel_rfl) : AD P g := by
 refine ⟨fn, X, fun e => ?_, fun e => ?_⟩
 ·rw [e] at W; simp at W
 ·rw [e] at R; simp at R
theorem places_run : ∀ (W : List Field) (H : List (Nat × Nat)), W.map (fun f => (f.offset, (P.info? f.type).map (·.size))) = H.map (fun p => (p.1, some p.2)) →
  ∀ w, (W.mapM (m := Sem) fun f => do pure (f.offset, ← sizeOf f.type)).run P w = .ok H w
 | [], [], _, w => by simp
 | [], _ :: _, h, _ => by simp at h
 | _ :: _, [], h, _ => by simp at h
 | f :: W, p :: H, h, w => by
  simp only [List.map_cons, List.cons.injEq, Prod.mk.injEq] at h;obtain ⟨⟨X, a⟩, R⟩ := h;obtain ⟨i, F, D⟩ := Option.map_eq_some_iff.1 a;have o := places_run W H R w;have b : (sizeOf f.type).run P w = .ok p.2 w := by simp [sizeOf, typeInfo, F, D]
  simp only [List.mapM_cons, Sem.run_bind, b, Sem.run_pure, Result.andThen_ok];rw [o];simp [X]
theorem CG {W : Array Field} {z : Value} {H : List (Nat × Nat)} {zero : LV} (r : P.underlying T = some (.struct W)) (h : (P.info? T).map (·.zero) = some (some z)) (n : z.cells = zero.toArray)
  (v : W.toList.map (fun f => (f.offset, (P.info? f.type).map (·.size))) = H.map (fun p => (p.1, some p.2))) : StT P T H zero := by
 obtain ⟨i, F, D⟩ := Option.map_eq_some_iff.1 h;refine ⟨W, i, z, r, F, D, n, fun w => ?_⟩;have := places_run W.toList H v w;rw [Array.mapM_eq_mapM_toList];have A : ∀ (x : Sem (List (Nat × Nat))), (Functor.map List.toArray x : Sem (Array (Nat × Nat))) = x >>= fun l => pure l.toArray := fun _ => rfl;rw [A, Sem.run_bind, this];simp
end
section
variable {mk : Prop} [MK mk]
attribute [local semireducible] WC AO Bi BH Be Cq DN BU
section
variable {P : Program} {all : Array Oper} {Z : Fr → DS → List PanicEntry → World → Prop} {K : Fr → DS → World → Prop} {rest : List Oper} {f : Fr} {ds : DS} {w : World}
 {d : Nat} {ty : TypeId} {pos : String} {af : Array Edge}
theorem AK {x : Operand} {a : Addr} (V : ev f x = .pointer (some a)) (h : AO P all Z K rest (upd f d (.pointer (some a))) ds w) :
  AO P all Z K (⟨some d, .nilCheck x, ty, pos, af, none⟩ :: rest) f ds w :=
 Aq rfl (by simp [execOp, V]) h
theorem W_sidx {r : TypeId} {x i : Operand} {k : IntKind} {s : LU} {j : Nat} {c : UInt8} [hT : StrT P r] (V : ev f x = AI s) (F : ev f i = .int k (j : Int)) (T : s[j]? = some c) (h : AO P all Z K rest (upd f d (enc8 c)) ds w) :
  AO P all Z K (⟨some d, .index r x i, ty, pos, af, none⟩ :: rest) f ds w :=
 W_sindex V F U (by simpa using T) h
theorem bytes_extract (s : LU) (l h : Nat) : (⟨s.toArray⟩ : ByteArray).extract l h = ⟨((s.take h).drop l).toArray⟩ := by
 apply ByteArray.ext;simp [ByteArray.data_extract, List.drop_take]
theorem W_sslice_lh {r : TypeId} {x a F : Operand} {k H : IntKind} {s : LU} {l t : Nat} [hT : StrT P r] (V : ev f x = AI s) (M : ev f a = .int k (l : Int)) (u : ev f F = .int H (t : Int)) (X : l ≤ t) (W : t ≤ s.length)
  (h : AO P all Z K rest (upd f d (AI ((s.take t).drop l))) ds w) : AO P all Z K (⟨some d, .slice r x (some a) (some F) none, ty, pos, af, none⟩ :: rest) f ds w := by
 refine Aq (v := AI ((s.take t).drop l)) rfl ?_ h;have e : (⟨s.toArray⟩ : ByteArray).size = s.length := by simp [ByteArray.size]
 have E : (0 : Int) ≤ (l : Int) ∧ (l : Int) ≤ (t : Int) := by omega
 have G : (0 : Int) ≤ (t : Int) ∧ (t : Int) ≤ ((s.length : Nat) : Int) := by omega
 simp only [execOp, V, M, u, Option.map_some, Option.map_none, Instr.sliceAt, Sem.run_bind, run_underlying hT.out, Result.andThen_ok, Instr.slice, Instr.sliceBounds, Instr.sliceBound, asIntOf, Sem.run_pure, e];simp [G, E, bytes_extract, X, W]
theorem W_sslice_l {r : TypeId} {x a : Operand} {k : IntKind} {s : LU} {l : Nat} [hT : StrT P r] (V : ev f x = AI s) (M : ev f a = .int k (l : Int)) (X : l ≤ s.length)
  (h : AO P all Z K rest (upd f d (AI (s.drop l))) ds w) : AO P all Z K (⟨some d, .slice r x (some a) none none, ty, pos, af, none⟩ :: rest) f ds w := by
 refine Aq (v := AI (s.drop l)) rfl ?_ h;have e : (⟨s.toArray⟩ : ByteArray).size = s.length := by simp [ByteArray.size]
 simp only [execOp, V, M, Option.map_some, Option.map_none, Instr.sliceAt, Sem.run_bind, run_underlying hT.out, Result.andThen_ok, Instr.slice, Instr.sliceBounds, Instr.sliceBound, asIntOf, Sem.run_pure, e];simp [bytes_extract, X]
theorem W_sslice_h {r : TypeId} {x F : Operand} {k : IntKind} {s : LU} {l : Nat} [hT : StrT P r] (V : ev f x = AI s) (M : ev f F = .int k (l : Int)) (X : l ≤ s.length)
  (h : AO P all Z K rest (upd f d (AI (s.take l))) ds w) : AO P all Z K (⟨some d, .slice r x none (some F) none, ty, pos, af, none⟩ :: rest) f ds w := by
 refine Aq (v := AI (s.take l)) rfl ?_ h;have e : (⟨s.toArray⟩ : ByteArray).size = s.length := by simp [ByteArray.size]
 simp only [execOp, V, M, Option.map_some, Option.map_none, Instr.sliceAt, Sem.run_bind, run_underlying hT.out, Result.andThen_ok, Instr.slice, Instr.sliceBounds, Instr.sliceBound, asIntOf, Sem.run_pure, e];simp [bytes_extract, X]
theorem W_vidx1 {T s e : Nat} {x i : Operand} {k : IntKind} {L : LV} {j : Nat} {v : Value} [hT : ArrT P T s e 1] [he : Cg P e] (V : ev f x = .agg L.toArray) (F : ev f i = .int k (j : Int)) (y : j < s) (g : L[j]? = some v)
  (h : AO P all Z K rest (upd f d v) ds w) : AO P all Z K (⟨some d, .index T x i, ty, pos, af, none⟩ :: rest) f ds w := by
 refine Aq rfl ?_ h;obtain ⟨q, b, D⟩ := hT.out;obtain ⟨W, X, l⟩ := he.out
 have H : (isAgg e).run P w = .ok false w := by
  simp only [isAgg, Sem.run_bind, run_underlying X, Result.andThen_ok];cases W <;> simp_all [aggD]
 have a : (part e L.toArray j).run P w = .ok v w := by
  simp only [part, Sem.run_bind, H, Result.andThen_ok];simp [g]
 simp only [execOp, V, F, Instr.index, asIntOf, Sem.run_bind, Sem.run_pure, Result.andThen_ok, run_underlying hT.und];have c : (0 : Int) ≤ (j : Int) ∧ (j : Int) < (s : Int) := by omega
 simp [y, sizeOf, typeInfo, b, D, a]
theorem W_vidx {T s e size : Nat} {x i : Operand} {k : IntKind} {L cs : LV} {j : Nat} [hT : ArrT P T s e size] [he : AggT P e size] (V : ev f x = .agg L.toArray) (F : ev f i = .int k (j : Int)) (y : j < s) (b : (L.drop (j * size)).take size = cs)
  (h : AO P all Z K rest (upd f d (.agg cs.toArray)) ds w) : AO P all Z K (⟨some d, .index T x i, ty, pos, af, none⟩ :: rest) f ds w := by
 refine Aq rfl ?_ h;obtain ⟨q, H, D⟩ := hT.out;obtain ⟨⟨W, X, c⟩, t, g, u⟩ := he.out
 have a : (isAgg e).run P w = .ok true w := by
  simp only [isAgg, Sem.run_bind, run_underlying X, Result.andThen_ok];cases W <;> simp_all [aggD]
 have v : (part e L.toArray (j * size)).run P w = .ok (.agg cs.toArray) w := by
  simp only [part, Sem.run_bind, a, Result.andThen_ok, sizeOf, typeInfo];simp [H, D, ← b]
 simp only [execOp, V, F, Instr.index, asIntOf, Sem.run_bind, Sem.run_pure, Result.andThen_ok, run_underlying hT.und];simp [y, sizeOf, typeInfo, H, D, v]
class ConcT (P : Program) (T : TypeId) : Prop where
 out : ∃ d, P.underlying T = some d ∧ (match d with | .interface _ => false | _ => true) = true
theorem DO {T : TypeId} {x : Operand} [hT : ConcT P T] (h : AO P all Z K rest (upd f d (.iface T (ev f x))) ds w) : AO P all Z K (⟨some d, .makeInterface T x, ty, pos, af, none⟩ :: rest) f ds w := by
 obtain ⟨W, X, a⟩ := hT.out;refine Aq rfl ?_ h;simp only [execOp, Instr.makeInterface, Sem.run_bind, run_underlying X, Result.andThen_ok];cases W <;> simp_all
theorem DX {x : Operand} {T : TypeId} {v : Value} {E : Option Nat} (V : ev f x = .iface T v) (h : Z f ds [{ v := .iface T v, recovered := false }] w) : AO P all Z K (⟨E, .panic x, ty, pos, af, none⟩ :: rest) f ds w := by
 unfold AO
 have B : (execOp (ev f) ⟨E, .panic x, ty, pos, af, none⟩).run P w = .halt (.panic (.iface T v)) w := by
  simp only [execOp, V, Instr.panic];rfl
 simp only [A7, if_true, BU, B];exact h
end
section
variable {P : Program} {fn : Func} {R : Value → World → Prop} {Y : List PanicEntry → World → Prop} {f : Fr} {w : World} {ch : List PanicEntry}
theorem Ai (h : Y ch w) : Cq P fn R Y (.panic ch) f [] w := ⟨rfl, h⟩
end
end
end Go.Proofs.YtohodbnnhlddpaaGreatDoor
