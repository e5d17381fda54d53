/- TopGoalsGoOn, part 1 of 16: rules, lemmas, walks. Conditions: none. -/
import Derived.WalkKit
import Derived.ProofKit
import Derived.Scope
import Derived.Orders
import Derived.Deep.LoopGhost
import Derived.Sort.LoopGhostIn
import Derived.OrdersIn
import Derived.TacticsIn
import Derived.RangeFuncLeaves
import Derived.Laws.AppendOwn
import Derived.Laws.MakeOwn
import Derived.Laws.CopyRow
import Derived.Deep.Draws
import Derived.Laws.OwnMore
import Derived.Laws.CopyOwn
import Derived.KernelRfl
namespace Go.Proofs.YtohodbnnhlddpaaGreatDoor
open Go.RowKit
set_option linter.unusedVariables false
abbrev LV := List Value
abbrev LU := List UInt8
abbrev iV (n : Int) : Value := .int .i64 n
abbrev sm (b : Nat) : Option Addr := some ⟨b, 0, none⟩
theorem Du {p : Prop} (h : p := by first | exact Bu (by omega) (by omega) | exact Cj (by omega) (by omega) | exact Bw (by omega) (by omega)) : p := h
theorem EG {p : Prop} (h : p := by simp [execOp, V, g, eqGuard, binOp, Op.intArith, wrap_in B]) : p := h
theorem EH {p : Prop} (h : p := by intro u t; simp at t; rcases t with rfl | rfl <;> rfl) : p := h
theorem EI {p : Prop} (h : p := by intro u r; simp at r; rcases r with rfl | rfl <;> rfl) : p := h
theorem Dz {p : Prop} (h : p := by simp [execOp, V, h, eqGuard, binOp, Op.intCmp, g]) : p := h
theorem Dv {p : Prop} (h : p := by intro b S; simp [fresh] at S ⊢; omega) : p := h
theorem D7 {p : Prop} (h : p := by have := j.size; have := e.size; omega) : p := h
theorem D3 {p : Prop} (h : p := by intro b S; simp at S ⊢; omega) : p := h
theorem ED {p : Prop} (h : p := by rw [Array.length_toList, DV]) : p := h
theorem EF {p : Prop} (h : p := by rw [List.length_take]; omega) : p := h
theorem EB {p : Prop} (h : p := by have := kB.size; omega) : p := h
theorem Dq {p : Prop} (h : p := by unfold maxLen; omega) : p := h
theorem Ds {p : Prop} (h : p := by simpa [Ar] using H) : p := h
theorem D9 {p : Prop} (h : p := by show 0 < 5; omega) : p := h
theorem EE {p : Prop} (h : p := by rw [← e]; exact S) : p := h
theorem D0 {p : Prop} (h : p := by rw [madeI1]; rfl) : p := h
theorem D8 {p : Prop} (h : p := by rw [made10]; rfl) : p := h
theorem EA {p : Prop} (h : p := by simp [DE]; omega) : p := h
theorem D4 {p : Prop} (h : p := by simp [opS, opP]) : p := h
theorem D6 {p : Prop} (h : p := by rw [V]; exact h) : p := h
theorem Dm {p : Prop} (h : p := by simp <;> omega) : p := h
theorem Dx {p : Prop} (h : p := by simpa using a4) : p := h
theorem Dy {p : Prop} (h : p := by simpa using h) : p := h
theorem EC {p : Prop} (h : p := by simpa using z) : p := h
theorem Dp {p : Prop} (h : p := by simp [zero5]) : p := h
theorem Dr {p : Prop} (h : p := by rw [Bk]; rfl) : p := h
theorem Dl {p : Prop} (h : p := by simp; omega) : p := h
theorem Dk {p : Prop} (h : p := by kernel_rfl) : p := h
theorem Do {p : Prop} (h : p := by assumption) : p := h
theorem Dw {p : Prop} (h : p := by simp [T]) : p := h
theorem Dt {p : Prop} (h : p := by decide) : p := h
theorem U {p : Prop} (h : p := by omega) : p := h
theorem O {p : Prop} (h : p := by simp) : p := h
theorem Dn {p : Prop} (h : p := by rfl) : p := h
theorem EJ {p : Prop} (h : p := by
 refine wNl trivial ?_
 refine go ?_
 refine D_E rfl ?_
 have p := e.own (n := 1) (size := 5) rfl Dq (Nat.le_refl _)
 refine Ak (ok := AZ) (B := w.heap.size) (n := 0) (xs := []) (v := .slice none 0 0) rfl rfl (own_nil _ _ _) (AV p fun _ _ => trivial) U rfl rfl (AU rfl) U U D7 (fun i f S => ?_)
 refine wNl trivial ?_
 have q := e.E.trans S.E
 exact I i _ _ ag ⟨j.ext q, E.E q O, C.E q O, S.own⟩) : p := h
theorem EK {p : Prop} (h : p := by
 rw [hv] at hl
 refine go ?_
 refine AC (glone_ok W m T (tkB (l, false) d) d a6 v nm U a3 b0 ht hd b3 cW) rfl ?_
 rintro u w6 ⟨k6, a8, I, L8, c8, o8, G⟩
 rw [← hl] at a8 c8 o8 G
 refine go ?_
 exact Aw (I, L8) ag ⟨kW.trans k6 (fun x h H => by simp at h; rcases h with rfl | rfl; simp; omega), a8, ⟨c8, Bf o8 U, G _, fun g z => by have := (Ab o8 z).1; omega⟩, zW.E k6 Dl, by have := k6.size; omega⟩) : p := h
theorem EL {p : Prop} (h : p := by
 rw [z]
 refine go ?_
 refine AR (L := [q, r, s, C, D]) rfl rfl a0 ?_
 refine AE (cs := [q, r, s, C, D]) rfl rfl rfl X.one R Dp (fun d m => go ?_)
 exact AT rfl rfl rfl m.D.cells ⟨H.E m.E O, (X.unm m.E (fun y K A => by rw [List.mem_singleton] at A; omega)).mono fun y K => ⟨by omega, K.2⟩⟩) : p := h
theorem EM {p : Prop} (h : p := by
 have M : e.length = 19 := (dtyR).len m
 refine AL (out := e) rfl U (fill_one ED M) (fun w4 K => ?_)
 obtain ⟨L, f, A⟩ := G.ex
 have s := (V.E.trans t).trans K.E
 have z3 := s.size
 have z4 := K.size
 have z5 := t.size
 have a0 : ((l.take k).map g).length = k := by rw [List.length_map, List.length_take]; omega
 have p : ∀ b, v.ownBlock = some b → w.heap.size ≤ b ∧ b < W.heap.size := fun b S => Ab f S
 refine Ak (ok := AZ) (v := v) rfl rfl (Aa f s) (AV (K.own (n := 1) (size := 19) U Dq (Nat.le_refl _)) fun _ _ => trivial) U Dn U ((dtyR).one m) U U U (fun v8 w8 j => ?_)
 have h : ∀ y ∈ v.ownBlock.toList, w.heap.size ≤ y := fun y hy => (Ab f (Option.mem_toList.1 hy)).1
 have i := Acc.push f A s ((dtyR).E ((dtyR).mono m (ok' := fun b => AZ b ∧ v.ownBlock ≠ some b) fun b S => ⟨trivial, fun e => by have := p b e; omega⟩) K.E (fun _ _ => by simp)) j
 refine go ?_
 have z8 := j.E.size
 refine ⟨(k + 1, v8), ⟨rfl, ag, ⟨by simp only; omega, (T.trans s).E j.E h, by omega, ?_⟩⟩, by simp only; omega⟩
 simp only
 have Z : l.take (k + 1) = l.take k ++ [x] := by rw [List.take_add_one, q]; rfl
 rw [Z, List.map_append]
 exact i) : p := h
theorem EN {p : Prop} (h : p := by
 repeat refine nx rfl ?_
 (refine AJ (Ag rfl (AK rfl (AF rfl (AM rfl (Blk.cell Do Dn) ?_)))) <;> refine Bo Dn Dn ?_ <;> refine DO (DX rfl ?_))
 repeat refine nx rfl ?_
 exact Ai ⟨_, _, by unfold numM; rw [if_pos o], rfl, c.E⟩) : p := h
theorem EO {p : Prop} (h : p := by
 refine D_E rfl ?_
 refine AN (v := .int .i64 (i : Int)) rfl rfl rfl a.D O (fun j f => ?_)
 refine AH ⟨Ext K, fun _ h => h, a.E.E f.E O, ?_⟩
 refine go ?_
 have c := (N.trans a.E).E f.E (by have := N.size; simp; omega)
 have q : Blk j K.heap.size 3 [.int .i64 (i : Int)] := f.D
 have d := X.ext c
 have D := Q.E c O
 have T := d.b1.cell (o := 0) rfl
 refine go ?_
 refine AC (DC j t S xs m p B 208 [] [pt c1, pt K.heap.size, pt w.heap.size] (fun k => tv (wdG S xs m p k nm = Z)) [] (fun _ _ => True) d.ax O trivial (fun _ _ _ => trivial) (fun k W P e _ => ?_)) rfl ?_
 ·obtain ⟨x, V⟩ := gl (l := xs) (k := lixN m p k) (by rw [G]; exact lixN_lt H k)
  have g : wdG S xs m p k nm = valS S x i := by
   rw [← I x]; simp [wdG, List.getD, V]
  rw [g]
  exact (glis1_ok W c1 t S xs m p B K.heap.size w.heap.size b o i k x Z P V n (d.b1.E e O) (q.E e O) (D.E e O) (d.ax.ext e) ((c.trans e).cell M O)).mono fun u w' r => ⟨r.1, r.2, trivial⟩
 rintro u w5 ⟨r, z, _⟩
 refine go ?_
 exact AA rfl ⟨r, (E.E.trans c).trans z⟩) : p := h
theorem EP {p : Prop} (h : p := by
 rintro u w2 ⟨k2, a7, f2⟩
 obtain ⟨F, rfl, a0, a1⟩ := f2.cells
 obtain ⟨y0, y1, y2, y3, y4, rfl⟩ := AX a0
 refine AE (cs := [y0, y1, y2, y3, y4]) rfl rfl rfl a1 (E.D.E k2 Dl) Dp (fun w9 q => ?_)
 refine go ?_
 exact AT rfl rfl rfl q.D.cells ⟨(E.E.any.trans k2 (fun _ h _ => h)).trans q.E (fun y K H => by simp at K; omega), a7.E q.E Dl, (f2.E q.E (fun y K A => by simp at A; omega)).mono fun y K => by omega⟩) : p := h
theorem EQ {p : Prop} (h : p := by
 refine AN rfl rfl rfl z O (fun w4 u => ?_)
 have l := u.D
 have G : ∀ g, (Value.slice p (m.length + 1) i).ownBlock = some g → g ∉ [s] := fun g M => by have := (Ab P M).1; simp; omega
 have d := Ad P u.E G
 have R : Keep [s] c w4 := Q.trans u.E fun x V _ => V
 refine wNl (⟨l.cell rfl, l.cell rfl⟩) ?_
 refine go ?_
 refine AN rfl rfl rfl l O (fun I A => ?_)
 have L := A.D
 have Z := Ad d A.E G
 have T : Keep [s] c I := R.trans A.E fun x V _ => V
 refine go ?_
 have o6 : I.ownsRow c.heap.size 217 3 (.slice p (m.length + 1) i) (m ++ [Tok.mk k ((t.take n).drop a) a]).length (toksC (m ++ [Tok.mk k ((t.take n).drop a) a])) := by
  have e : toksC (m ++ [Tok.mk k ((t.take n).drop a) a]) = toksC m ++ tokC (Tok.mk k ((t.take n).drop a) a) := by simp [toksC]
  rw [e]; simpa using Z
 exact BF rfl ⟨rfl, by omega, ⟨T, hs, hl, h2, by simp; omega, _, L, o6⟩⟩) : p := h
theorem ER {p : Prop} (h : p := by
 refine go ?_
 exact BF rfl ⟨H.trans X (fun y K Q => by simp at K; rcases K with rfl | rfl; omega; simp), A.E X Dl, .slice (some ⟨g, 0, none⟩) 1 F, [[.int .i64 1, AI [], .int .i64 0, .int .i64 0, .slice none 0 0]], k, by simpa using V, fun ok => FsAt.one (FAt.leaf _ _ _ [] 0 0) rfl⟩) : p := h
theorem ES {p : Prop} (h : p := by
 refine go ?_
 exact BF rfl ⟨H.trans X (fun y K Q => by simp at K; rcases K with rfl | rfl; omega; simp), A.E X Dl, .slice (some ⟨g, 0, none⟩) 1 F, [[.int .i64 2, AI [], .int .i64 0, .int .i64 0, .slice none 0 0]], k, by simpa using V, fun ok => FsAt.one (FAt.leaf _ _ _ [] 0 0) rfl⟩) : p := h
theorem ET {p : Prop} (h : p := by
 rintro v o ⟨rfl, i, j, F, y⟩
 have E := f.trans F
 rw [E] at b
 repeat refine nx rfl ?_
 exact ⟨(n, i, j), ⟨rfl, ⟨rfl, rfl, trivial⟩, ⟨y, by have := step_on g E; simp only; omega, b⟩⟩, Nat.lt_succ_self _⟩) : p := h
theorem EU {p : Prop} (h : p := by
 refine go ?_
 exact AA rfl ⟨rfl, rfl⟩) : p := h
theorem EV {p : Prop} (h : p := by
 rintro u L ⟨r, l, _⟩
 refine AH ⟨Ext L, fun _ e => l.trans e, Ext.refl _, ?_⟩
 refine go ?_
 exact AA rfl ⟨r, N.trans l⟩) : p := h
theorem EW {p : Prop} (h : p := by
 rw [hv]
 refine go ?_
 refine AN (v := .int .i64 (1 - v)) rfl rfl rfl cW O (fun w6 p6 => go ?_)
 exact Aw (.slice none 0 0, []) ag ⟨kW.trans p6.E (fun x h H => by simp at h; omega), a3.E p6.E Dl, Bld.start p6.D, zW.E p6.E Dl, by have := p6.size; omega⟩) : p := h
theorem EX {p : Prop} (h : p := by
 rintro R o ⟨e, q, F, rfl, y⟩
 have E := f.trans F
 rw [E] at b
 repeat refine nx rfl ?_
 exact Ai ⟨e, q, b.symm, rfl, l _ y⟩) : p := h
theorem EY {p : Prop} (h : p := by
 have hP := Acc.push (R := fmlR) l r D (c := [s0, s1, s2, s3, s4]) (a := C9 x) ⟨rfl, (f6.ext n7.E).mono fun b S => ⟨by omega, fun e => by have := Ab l e; omega⟩⟩ a8
 refine go ?_
 refine ⟨(k + 1, v8), ⟨rfl, ag, ⟨by simp only; omega, (T.trans D).E a8.E (fun y hy => (Z y hy).1), ?_⟩⟩, by simp only; omega⟩
 simp only
 have b0 : j.take (k + 1) = j.take k ++ [x] := by rw [List.take_add_one, V]; rfl
 rw [b0, List.map_append]
 exact hP) : p := h
theorem EZ {p : Prop} (h : p := by
 exact Ext.refl _) : p := h
theorem Ea {p : Prop} (h : p := by
 exact DR c rfl z (fun W => by simp [execOp, V, e, eqGuard, binOp, Op.intCmp, T]) (h T)) : p := h
theorem Eb {p : Prop} (h : p := by
 refine go ?_
 exact AA rfl ⟨rfl, X⟩) : p := h
theorem Ec {p : Prop} (h : p := by
 rintro u j ⟨d, T⟩
 obtain ⟨t, rfl, A, n⟩ := T.cells
 obtain ⟨F, H, g, I, v, rfl⟩ := AX A
 have e := E.size
 refine AE (cs := [F, H, g, I, v]) rfl rfl rfl n (E.D.E d O) Dp (fun V i => go ?_)
 exact AT rfl rfl rfl i.D.cells ⟨(E.E.trans d).E i.E mSx, (T.unm i.E (fun y K f => by rw [List.mem_singleton] at f; omega)).mono fun y K => ⟨by omega, K.2⟩⟩) : p := h
theorem Ed {p : Prop} (h : p := by
 obtain rfl : k = 10 := by omega
 refine AJ (W_lssF rfl rfl U ?_)
 repeat first | refine nx rfl ?_ | refine nf rfl ?_
 refine AJ (AP rfl (Ac (AP rfl ?_)))
 repeat refine nx rfl ?_
 have j : s ∉ keysL := G
 exact AA rfl ⟨by rw [DH, l, decide_eq_false j, decide_eq_true (show 1 ≤ s.length by omega), decide_eq_true (show s.length ≤ 12 by omega)]; rfl, rfl⟩) : p := h
theorem Ee {p : Prop} (h : p := by
 rw [if_pos rfl]
 refine go ?_
 refine AN (v := .bool true) rfl rfl rfl q O (fun B A => go ?_)
 refine Bt ((A.E.block _ (Array.getElem?_eq_some_iff.1 g).1 Dl).trans g) fun d a F => ?_
 exact BA (A9 rfl ((A.D.E a Dl).cell (o := 0) rfl) ⟨rfl, (j.E A.E (fun x V => by simp at V; omega)).E a (fun x V => by simp at V; omega)⟩)) : p := h
theorem Ef {p : Prop} (h : p := by
 (refine AJ (CK rfl (CK rfl ?_)) <;> refine W_seql rfl rfl (fun T => ?_) (fun T => ?_) <;> refine AH ?_)
 case refine_2 => exact absurd a Do
 repeat refine nx rfl ?_
 refine AJ (Ac (AP rfl ?_))
 repeat refine nx rfl ?_
 exact AA rfl ⟨by rw [DH, decide_eq_true (List.mem_of_getElem? (a ▸ K) : s ∈ keysL)]; simp [upd, Nat.beq], rfl⟩) : p := h
theorem Eg {p : Prop} (h : p := by
 refine go ?_
 exact AA rfl ⟨rfl, Ext.refl _⟩) : p := h
theorem Eh {p : Prop} (h : p := by
 rw [if_pos rfl]
 refine go ?_
 refine AE (cs := zero5) rfl rfl rfl (AU rfl) ((E).D.E k2 Dl) Dp (fun w9 q => ?_)
 refine go ?_
 have z9 := (E).size
 exact AT rfl rfl rfl q.D.cells ⟨((E).E.any.trans k2 (fun _ h _ => h)).trans q.E (fun x h H => by simp at h; omega), (a7).E q.E Dl, FAt.leaf _ _ 0 [] 0 0⟩) : p := h
theorem Ei {p : Prop} (h : p := by
 refine go ?_
 refine D_E rfl ?_
 refine Ax rfl ?_
 refine wNl l ?_
 refine go ?_
 refine D_E rfl ?_
 refine Ax rfl ?_
 refine wNl l ?_
 refine go ?_
 refine D_E rfl ?_
 refine Ax rfl ?_
 refine wNl l ?_
 refine go ?_
 refine D_E rfl ?_
 refine Ax rfl ?_
 refine wNl l ?_
 refine go ?_
 exact AA rfl ⟨rfl, q2⟩) : p := h
theorem Ej {p : Prop} (h : p := by
 obtain ⟨⟨b, Q, M⟩, -, -⟩ := h
 have D : Sl AZ W v1 g.length b.flatten := AV Q fun _ _ => trivial
 obtain ⟨a, c, e, _⟩ := id D
 exact ⟨a, c, e, a, c, b, e, D, M.1, fun i d x C V => ⟨M.2.1 d (List.mem_of_getElem? C), (M.2.2 i d x C V).mono fun _ _ => trivial⟩⟩) : p := h
theorem Ek {p : Prop} (h : p := by
 (refine AJ (Af rfl ?_) <;> (refine W_neq rfl rfl (fun T => ?_) (fun T => ?_) <;> try omega))
 repeat refine nx rfl ?_
 refine AJ (Af rfl (Ac (Af rfl ?_)))
 repeat refine nx rfl ?_
 exact AA rfl ⟨congrArg (Value.int .i64) (by rw [z, cmpL, I, Dh, Dh, thenI_ne a5]), C⟩) : p := h
theorem El {p : Prop} (h : p := by
 have hv : Cp N v false = v := by simp [Cp]
 rw [hv]
 refine go ?_
 exact Aw (.slice none 0 0, []) ag ⟨kW, a3, Bld.start cW, zW, lW⟩) : p := h
theorem Em {p : Prop} (h : p := by
 refine go ?_
 refine D_E rfl ?_
 refine AL (out := [F, P, M, z, Z]) rfl U Dr (fun V2 q => ?_)
 refine wNl ((Ext.trans G q.E).any) ?_
 refine go ?_
 exact b3 (V.heap.size, F, P, M, z, Z) _ _ ag ⟨G.trans q.E, q.D, (I.ext q.E).mono fun b n => n⟩) : p := h
theorem En {p : Prop} (h : p := by
 exact (Q.E s.E (fun y K => by have := B _ (Option.mem_toList.1 K); omega)).E e.E (fun y K => by simp at K; omega)) : p := h
theorem Eo {p : Prop} (h : p := by
 exact DR c rfl z (fun W => by simp [execOp, V, e, eqGuard, binOp, Op.intCmp, T]) (I U)) : p := h
theorem Ep {p : Prop} (h : p := by
 exact Keep.refl _ _) : p := h
theorem Er {p : Prop} (h : p := by
 intro i e F
 have := congrArg (fun l => l[i]?) A
 simp only [List.getElem?_map, F, Option.map_some] at this
 obtain ⟨p, c, a⟩ := Option.map_eq_some_iff.1 this.symm
 exact ⟨p, c, (congrArg Prod.fst a).symm, (congrArg Prod.snd a).symm⟩) : p := h
theorem Es {p : Prop} (h : p := by
 refine AH ⟨_, fun _ e => e, i.any.trans m.E (fun _ h _ => h), ?_⟩
 refine go ?_
 exact AT rfl rfl rfl m.D.cells ⟨(E.trans i).E m.E O, ((p.ext q).E m.E (fun y d P => by simp at P; omega)).mono fun y d => by omega⟩) : p := h
theorem Et {p : Prop} (h : p := by
 refine go ?_
 refine D_E rfl ?_
 refine Ax rfl ?_
 refine wNl Q ?_
 refine go ?_
 refine D_E rfl ?_
 refine Ax rfl ?_
 refine wNl Q ?_
 refine go ?_
 refine D_E rfl ?_
 refine Ax rfl ?_
 refine wNl Q ?_
 refine go ?_
 exact AA rfl ⟨rfl, q3⟩) : p := h
theorem Eu {p : Prop} (h : p := by
 refine go ?_
 have hS := AV (ok := fresh w) P (fun g z => (j g z).1)
 obtain ⟨sa, sc, rfl, _⟩ := id hS
 refine go ?_
 have M := t _ (q.done A)
 simp only [prepL, List.append_nil] at M
 exact AA rfl ⟨k, l, o, M, R.st, L, P, y⟩) : p := h
theorem Ev {p : Prop} (h : p := by
 rintro v L ⟨rfl, u⟩
 refine go ?_
 exact BF rfl ⟨rfl, u⟩) : p := h
theorem Ew {p : Prop} (h : p := by
 refine go ?_
 exact Aw () ag rfl) : p := h
theorem Ex {p : Prop} (h : p := by
 obtain rfl : k = l.length := by omega
 refine go ?_
 exact AA rfl ⟨by unfold fidxI; rw [fidx_miss I]; rfl, T⟩) : p := h
theorem Ey {p : Prop} (h : p := by
 obtain rfl : k = l.length := by omega
 rw [List.take_length] at G
 refine go ?_
 exact AA rfl ⟨T, G.sl⟩) : p := h
theorem Ez {p : Prop} (h : p := by
 have e1 : (L ++ [c]).flatten = L.flatten ++ c := by simp
 simp only
 rw [e1, List.length_append]
 exact o7) : p := h
theorem E0 {p : Prop} (h : p := by
 refine go ?_
 exact AA rfl ⟨rfl, s.E, b⟩) : p := h
theorem E7 {p : Prop} (h : p := by
 refine go ?_
 exact AT rfl rfl rfl m.D.cells ⟨((H.trans N).trans G).E m.E O, (f6.unm m.E (fun y K A => by rw [List.mem_singleton] at A; omega)).mono fun y K => ⟨by omega, K.2⟩⟩) : p := h
theorem E8 {p : Prop} (h : p := by
 exact (a4.ext d.E).trans i.E (fun x V I => by have := j x (Option.mem_toList.1 V); omega)) : p := h
theorem E9 {p : Prop} (h : p := by
 obtain ⟨i, F⟩ := List.getElem?_of_mem V
 exact I i x (List.getElem?_eq_some_iff.1 F).1 F) : p := h
theorem FA {p : Prop} (h : p := by
 refine go ?_
 exact AA rfl ⟨r, E.E.trans l⟩) : p := h
theorem FB {p : Prop} (h : p := by
 simp only
 rw [valsC_succ]
 exact Ad s.own e.E (fun g z => by have := E g z; simp; omega)) : p := h
theorem FC {p : Prop} (h : p := by
 exact ((hN.E h.E (fun b S A => by rw [List.mem_singleton] at A; omega)).E p9.E (fun b S A => by rw [List.mem_singleton] at A; omega)).mono fun b S => by omega) : p := h
theorem FD {p : Prop} (h : p := by
 refine go ?_
 exact Aw () ⟨rfl, rfl, rfl, rfl, trivial⟩ rfl) : p := h
theorem FE {p : Prop} (h : p := by
 have : (n + 1) * size = (o.toList.take (n * size) ++ cs).length := by rw [List.length_append, c, M, Nat.succ_mul]
 rw [this, ← List.append_assoc]
 exact List.take_left) : p := h
theorem FF {p : Prop} (h : p := by
 refine go ?_
 refine AE (cs := zero5) rfl rfl rfl (AU rfl) F2 Dp (fun W9 p9 => go ?_)
 exact AT rfl rfl rfl p9.D.cells ⟨y2.E p9.E Dl, FAt.leaf _ _ 0 [] 0 0⟩) : p := h
theorem FG {p : Prop} (h : p := by
 obtain ⟨r, p, e, hp⟩ := qa k a H
 have a6 := List.mem_of_getElem? H
 have := Ba a6
 exact ⟨r, p, e, ih W r _ a U (B.trans l) (hp.E l (fun _ _ => by simp))⟩) : p := h
theorem FH {p : Prop} (h : p := by
 simp only
 rw [a9, ← List.append_assoc, ← b8]
 exact (sV.snoc fV a0).E kE (fun y K A => by simp at A; rcases A with rfl | rfl; exact K.2 rfl; exact K.1.2 rfl)) : p := h
theorem FI {p : Prop} (h : p := by
 obtain ⟨i, Z, o, h⟩ := Co h
 obtain ⟨_, z, Q, h⟩ := Co h
 obtain ⟨s, w, u, h⟩ := Co h
 have := o.le; have := Q.le; have := name_inv u; have := h.le
 omega) : p := h
theorem FJ {p : Prop} (h : p := by
 refine go ?_
 exact AA rfl ⟨by unfold fidxI; rw [fidx_hit V hp I]; rfl, T.trans g⟩) : p := h
theorem FK {p : Prop} (h : p := by
 refine go ?_
 refine AE (cs := zero5) rfl rfl rfl (AU rfl) T Dp (fun d e => go ?_)
 exact AT rfl rfl rfl e.D.cells ⟨z.E e.E Dl, FAt.leaf _ _ 0 [] 0 0⟩) : p := h
theorem FM {p : Prop} (h : p := by
 rw [if_neg O]
 refine go ?_
 refine Bt g fun d a F => ?_
 exact BA (A9 rfl ((q.E a Dl).cell (o := 0) rfl) ⟨rfl, j.E a (fun x V => by simp at V; omega)⟩)) : p := h
theorem FN {p : Prop} (h : p := by
 refine go ?_
 exact AA rfl ⟨rfl, T⟩) : p := h
theorem FO {p : Prop} (h : p := by
 refine go ?_
 exact AA rfl ⟨congrArg Value.bool j, X⟩) : p := h
theorem FP {p : Prop} (h : p := by
 refine go ?_
 refine AN (v := .bool false) rfl rfl rfl (S.E G O) O (fun q c => go ?_)
 exact ⟨rfl, (G).any.trans c.E (fun _ h _ => h), c.D⟩) : p := h
theorem FQ {p : Prop} (h : p := by
 obtain ⟨a, b⟩ := q
 have H : x ≠ a := fun e => h (a, b) O e.symm
 rw [List.lookup_cons, beq_false_of_ne H]
 exact ih fun p v => h p (by simp [v])) : p := h
theorem FR {p : Prop} (h : p := by
 refine go ?_
 refine AN (v := .bool false) rfl rfl rfl (S.E m O) O (fun B A => go ?_)
 exact ⟨rfl, m.any.trans A.E (fun _ h _ => h), A.D⟩) : p := h
theorem Fh {p : Prop} (h : p := by
 intro q L u
 refine go ?_
 exact Ai u) : p := h
theorem FT {p : Prop} (h : p := by
 rw [if_neg (fun h => h.elim (fun h => by rw [hic] at h; cases h) a4)] at z
 refine go ?_
 exact Aw () ⟨rfl, rfl, rfl, trivial⟩ ⟨rfl, z⟩) : p := h
theorem FU {p : Prop} (h : p := by
 exact AA rfl ⟨rfl, E.E⟩) : p := h
theorem FW {p : Prop} (h : p := by
 refine go ?_
 exact AA rfl ⟨false, rfl, d.E, fun h => by cases h⟩) : p := h
theorem FX {p : Prop} (h : p := by
 refine go ?_
 exact AA rfl ⟨by rw [S]; rfl, d⟩) : p := h
theorem FY {p : Prop} (h : p := by
 have := List.take_append_drop k f.args
 rw [List.drop_eq_getElem_cons F, (List.getElem?_eq_some_iff.1 c).2] at this
 exact this.symm) : p := h
theorem FZ {p : Prop} (h : p := by
 rintro _ I ⟨C, F, _, f⟩
 refine go ?_
 exact AA rfl ⟨C, a.E F Dl, fun g D => by have := f g D; have := a.size; omega⟩) : p := h
theorem Fa {p : Prop} (h : p := by
 simp only
 rw [b0, b1, ha, if_neg Bool.false_ne_true, if_neg Bool.false_ne_true, List.append_nil]
 exact hTp.swap.E m.E O) : p := h
theorem Fb {p : Prop} (h : p := by
 have : p.1 ≠ a := fun e => G.1 (List.mem_map.2 ⟨p, v, e⟩)
 rw [List.lookup_cons, beq_false_of_ne this]
 exact ih G.2 v) : p := h
theorem Fc {p : Prop} (h : p := by
 refine go ?_
 exact AA rfl ⟨rfl, X.trans l⟩) : p := h
theorem Fd {p : Prop} (h : p := by
 rw [S, List.cons_append, List.prefix_cons_inj, List.prefix_append_right_inj]
 exact a1.trans (List.prefix_append _ _)) : p := h
theorem Fe {p : Prop} (h : p := by
 refine go ?_
 exact ⟨i + 1, ⟨rfl, ag, ⟨by omega, R.E s.E Dl, c (by rw [A]; rfl) rfl s⟩⟩, by omega⟩) : p := h
theorem Ff {p : Prop} (h : p := by
 refine go ?_
 exact ⟨i + 1, ⟨rfl, ag, ⟨by omega, R.E s.E Dl, f (by rw [A]; rfl) rfl s⟩⟩, by omega⟩) : p := h
theorem Fg {p : Prop} (h : p := by
 simp only
 rw [List.take_add_one, c, List.map_append]
 exact hB) : p := h
theorem nlr {a b : Nat} (h : Nat.ble a b = true := by rfl) : a ≤ b := Nat.le_of_ble_eq_true h
abbrev Fr := Nat → Value
abbrev DS := List Deferred
def upd (f : Fr) (i : Nat) (v : Value) : Fr := fun j => bif Nat.beq j i then v else f j
def putF (f : Fr) (d : Option Nat) (v : Value) : Fr := match d with | some i => upd f i v | none => f
def ev (f : Fr) : Operand → Value
 | .tmp t => f t
 | .const v => v
 | .global g => .pointer (sm g)
 | .func g => .func (.func g) #[] #[]
def evL (f : Fr) : List Operand → LV
 | [] => []
 | x :: l => ev f x :: evL f l
def argF : LV → Fr
 | [], _ => undef
 | v :: _, 0 => v
 | _ :: l, i + 1 => argF l i
def ov : List (Nat × Value) → Fr → Fr
 | [], f => f
 | (i, v) :: l, f => upd (ov l f) i v
def agr : List (Nat × Value) → Fr → Prop
 | [], _ => True
 | (i, v) :: l, f => f i = v ∧ agr l f
theorem ov_of_agr {l : List (Nat × Value)} {f : Fr} (h : agr l f) : ov l f = f := by
 induction l with
 | nil => rfl
 | cons p l ih =>
  obtain ⟨i, v⟩ := p;obtain ⟨X, W⟩ := h
  funext j
  simp only [ov, upd, ih W];cases hj : Nat.beq j i with
  | true => simp [Nat.eq_of_beq_eq_true hj, X]
  | false => rfl
def CM (a : Act) : Fr := fun i => a.tmps.getD i undef
theorem ev_toFr (a : Act) : a.eval = ev (CM a) := by funext x; cases x <;> rfl
theorem toFr_put {a : Act} {d : Nat} (v : Value) (h : d < a.tmps.size) : CM (a.put (some d) v) = upd (CM a) d v := by
 funext j
 simp only [CM, Act.put, upd, Array.getD_eq_getD_getElem?];cases hj : Nat.beq j d with
 | true =>
  have := Nat.eq_of_beq_eq_true hj;subst this;simp [h]
 | false =>
  have H : d ≠ j := fun e => by subst e; simp at hj
  simp [Array.getElem?_setIfInBounds_ne H]
def dOk (n : Nat) : Option Nat → Bool
 | some d => Nat.blt d n
 | none => true
theorem toFr_putF {a : Act} {d : Option Nat} (v : Value) (h : dOk a.tmps.size d = true) : CM (a.put d v) = putF (CM a) d v := by
 cases d with
 | none => rfl
 | some d => exact toFr_put v (by simpa [dOk, Nat.blt_eq] using h)
theorem size_put (a : Act) (d : Option Nat) (v : Value) : (a.put d v).tmps.size = a.tmps.size := by
 cases d <;> simp [Act.put]
theorem defers_put (a : Act) (d : Option Nat) (v : Value) : (a.put d v).defers = a.defers := by
 cases d <;> rfl
def BU (P : Program) (o : Oper) (f : Fr) (ds : DS) (w : World) (K : Value → DS → World → Prop) (Z : List PanicEntry → World → Prop) : Prop :=
 match (execOp (ev f) o).run P w with
 | .ok (.value v) w' => K v ds w'
 | .ok .skip w' => K undef ds w'
 | .ok (.defer d) w' => K undef (d :: ds) w'
 | .ok (.enter g args) w' => Calls P g args w' fun e a => match e with | .returned v => K v ds a | .panicked ch => Z ch a | .outgrown => False
 | .ok (.round l g tmps assign body) w' => RoundIn Fence.wide 0 P l g tmps assign body w' fun e a => match e with | .returned v => K v ds a | .panicked ch => Z ch a | .outgrown => False
 | .halt (.panic v) w' => Z [{ v, recovered := false }] w'
 | _ => False
def guardVal (K : Array Oper) (f : Fr) (j : Nat) : Option Bool :=
 match (K[j]?).bind (·.dst) with
 | some t => (match f t with | .bool b => some b | _ => none)
 | none => none
def A7 (K : Array Oper) (f : Fr) (g : Option (Nat × Bool)) : Bool :=
 match g with
 | none => true
 | some (j, want) => guardVal K f j == some want
theorem yielded_toFr (K : Array Oper) (a : Act) (j : Nat) : yielded K a.tmps j = guardVal K (CM a) j := by
 unfold yielded guardVal CM;cases h : (K[j]?).bind (·.dst) with
 | none => rfl
 | some t =>
  simp only [Option.bind_some, Array.getD_eq_getD_getElem?];cases ht : a.tmps[t]? with
  | none => rfl
  | some v => cases v <;> rfl
theorem wanted_toFr (K : Array Oper) (a : Act) (o : Oper) : Region.wanted o (yielded K a.tmps) = A7 K (CM a) o.guard := by
 unfold Region.wanted A7;cases o.guard with
 | none => rfl
 | some p => obtain ⟨j, V⟩ := p; simp only [yielded_toFr]
def AO (P : Program) (a : Array Oper) (Z : Fr → DS → List PanicEntry → World → Prop) (K : Fr → DS → World → Prop) : List Oper → Fr → DS → World → Prop
 | [], f, m, w => K f m w
 | o :: rest, f, m, w =>
  if A7 a f o.guard then BU P o f m w (fun v m w => AO P a Z K rest (putF f o.dst v) m w) (Z f m)
  else AO P a Z K rest (putF f o.dst undef) m w
structure Cf where
 n : Nat
 r : Option Nat
def rnd (r : Option Nat) : Fence := { Fence.wide with round := r }
abbrev DQ := Exit → Fr → DS → World → Prop
def Bi (k : Fr → DS → World → Prop) (Q : DQ) : DQ
 | .normal => k
 | e => Q e
def BH (id : Nat) (Q : DQ) : DQ
 | .exit i => if i = id then Q .normal else Q (.exit i)
 | e => Q e
def Be (Q : DQ) : DQ
 | .goto _ => fun _ _ _ => False
 | e => Q e
def liftQ (n : Nat) (Q : DQ) : Exit → Act → World → Prop := fun e a w => a.tmps.size = n ∧ Q e (CM a) a.defers w
def WC (P : Program) (n : Cf) : Code → DQ → Fr → DS → World → Prop
 | .skip, Q => Q .normal
 | .label _, Q => Q .normal
 | .ret, Q => Q .ret
 | .exit id, Q => Q (.exit id)
 | .goto _, _ => fun _ _ _ => False
 | .refuse _, _ => fun _ _ _ => False
 | .seq a b, Q => WC P n a (Bi (WC P n b Q) Q)
 | .block id c, Q => WC P n c (BH id Q)
 | .scope c, Q => WC P n c (Be Q)
 | .cond c x y, Q => fun f m w => match ev f c with
  | .bool b => if b then WC P n x Q f m w else WC P n y Q f m w
  | _ => False
 | .region id ops draw, Q => fun f m w =>
  match draw with
  | false => AO P ops (fun f m q w => Q (.panic q) f m w) (Q .normal) ops.toList f m w
  | true => ∀ a, a.tmps.size = n.n → CM a = f → a.defers = m → (Code.region id ops true).wpIn (rnd n.r) 0 P (liftQ n.n Q) a w
 | .loop c, Q => fun f m w => ∃ (α : Type) (I : α → Fr → DS → World → Prop) (μ : α → Nat) (x : α), I x f m w ∧
   ∀ x f m w, I x f m w → WC P n c (Bi (fun e d Z => ∃ y, I y e d Z ∧ μ y < μ x) Q) f m w
 | .rangeFunc g ps as body, Q => fun f m w => ∀ a, a.tmps.size = n.n → CM a = f → a.defers = m → (Code.rangeFunc g ps as body).wpIn (rnd n.r) 0 P (liftQ n.n Q) a w
def isDefer : Op → Bool
 | .defer _ => true
 | _ => false
def opOk (n : Nat) (X : Bool) (o : Oper) : Bool := dOk n o.dst && (!X || !isDefer o.op)
def CR (n : Nat) (X : Bool) : Code → Bool
 | .seq a b => CR n X a && CR n X b
 | .block _ c => CR n X c
 | .scope c => !X && CR n X c
 | .cond _ x y => CR n X x && CR n X y
 | .region _ ops draw => draw || ops.toList.all (opOk n X)
 | .loop c => CR n X c
 | _ => true
theorem semAt_ok {r : Option Nat} {n : Nat} {o : Oper} (h : opOk n r.isSome o = true) (ρ : Operand → Value) : Oper.semAt r ρ o = execOp ρ o := by
 cases r with
 | none => rfl
 | some l =>
  refine Oper.semAt_eq _ ρ o fun c T => ?_;simp [opOk, T, isDefer] at h
theorem uponIn_of {P : Program} {r : Option Nat} {n : Nat} {o : Oper} {a : Act} {w : World} {K : Fr → DS → World → Prop} {Q : DQ} {K' : Act → World → Prop} (G : a.tmps.size = n) (f : opOk n r.isSome o = true)
  (next : ∀ v ds w', K (putF (CM a) o.dst v) ds w' → K' ({ a with defers := ds }.put o.dst v) w')
  (h : BU P o (CM a) a.defers w (fun v ds w => K (putF (CM a) o.dst v) ds w) (fun q w => Q (.panic q) (CM a) a.defers w)) : o.wpIn (rnd r) 0 P a w K' (liftQ n Q) := by
 refine ⟨fun _ _ => trivial, ?_⟩;have D : (rnd r).round = r := rfl;rw [D, semAt_ok f, ev_toFr];unfold BU at h;revert h;generalize (execOp (ev (CM a)) o).run P w = res;intro h;have i : (rnd r).depth.isSome = true → 1 ≤ 0 := fun u => by simp [rnd, Fence.wide] at u
 cases res with
 | halt x w' => cases x <;> first | exact h.elim | exact ⟨G, h⟩
 | ok m w' =>
  cases m with
  | value v => exact next v a.defers w' h
  | skip => exact next undef a.defers w' h
  | defer d => exact next undef (d :: a.defers) w' h
  | enter g args =>
   refine ⟨i, ?_⟩;have T : CallsIn Fence.wide (0 - 1) P g args w' _ := callsIn_wide.2 h;refine CallsIn.mono (F := rnd r) T fun e c b => ?_;cases e with
   | returned v => exact next v a.defers c b
   | panicked q => exact ⟨G, b⟩
   | outgrown => exact b.elim
  | round l g tmps assign body =>
   refine ⟨i, ?_⟩;have T : RoundIn (rnd r) (0 - 1) P l g tmps assign body w' _ := h;refine RoundIn.mono T fun e c b => ?_;cases e with
   | returned v => exact next v a.defers c b
   | panicked q => exact ⟨G, b⟩
   | outgrown => exact b.elim
  | _ => exact h.elim
theorem next_of {n : Nat} {o : Oper} {a : Act} {K : Fr → DS → World → Prop} {K' : Act → World → Prop} (G : a.tmps.size = n) (f : dOk n o.dst = true)
  (u : ∀ b w', b.tmps.size = n → K (CM b) b.defers w' → K' b w') : ∀ v ds w', K (putF (CM a) o.dst v) ds w' → K' ({ a with defers := ds }.put o.dst v) w' := by
 intro v ds w' t;refine u _ w' (by rw [size_put]; exact G) ?_;rw [defers_put];have e : CM ({ a with defers := ds }.put o.dst v) = putF (CM a) o.dst v := toFr_putF (a := { a with defers := ds }) (d := o.dst) v (by rw [G]; exact f);rw [e];exact t
theorem wpListIn_of_WOps {P : Program} {b : Array Oper} {n : Nat} {r : Option Nat} {Q : DQ} : ∀ (l : List Oper) (a : Act) (w : World), a.tmps.size = n → l.all (opOk n r.isSome) = true →
  AO P b (fun f ds q w => Q (.panic q) f ds w) (Q .normal) l (CM a) a.defers w → wpListIn (rnd r) 0 P b (liftQ n Q) l a w
 | [], a, w, hn, _, h => ⟨hn, h⟩
 | o :: rest, a, w, hn, hok, h => by
  simp only [List.all_cons, Bool.and_eq_true] at hok;have C : dOk n o.dst = true := by have := hok.1; simp only [opOk, Bool.and_eq_true] at this; exact this.1
  have next := next_of (n := n) (o := o) (a := a) (K := AO P b (fun f ds q w => Q (.panic q) f ds w) (Q .normal) rest) (K' := wpListIn (rnd r) 0 P b (liftQ n Q) rest) hn C
   (fun c Z X W => wpListIn_of_WOps rest c Z X hok.2 W)
  unfold wpListIn;unfold AO at h;rw [wanted_toFr];by_cases u : A7 b (CM a) o.guard = true
  ·rw [if_pos u] at h;rw [if_pos u];exact uponIn_of hn hok.1 next h
  ·rw [if_neg u] at h;rw [if_neg u];exact ⟨fun _ _ => trivial, next undef a.defers w h⟩
theorem lift_mono {n : Nat} {Q W : DQ} (h : ∀ e f ds w, Q e f ds w → W e f ds w) : ∀ e a w, liftQ n Q e a w → liftQ n W e a w :=
 fun e a w ⟨h1, h2⟩ => ⟨h1, h e _ _ w h2⟩
theorem By {P : Program} {n : Cf} : ∀ (c : Code) (Q : DQ) (a : Act) (w : World), a.tmps.size = n.n → CR n.n n.r.isSome c = true →
  WC P n c Q (CM a) a.defers w → c.wpIn (rnd n.r) 0 P (liftQ n.n Q) a w
 | .skip, Q, a, w, hn, _, h => wpIn_skip ⟨hn, h⟩
 | .label _, Q, a, w, hn, _, h => wpIn_label ⟨hn, h⟩
 | .ret, Q, a, w, hn, _, h => wpIn_ret ⟨hn, h⟩
 | .exit _, Q, a, w, hn, _, h => wpIn_exit ⟨hn, h⟩
 | .goto _, _, _, _, _, _, h => h.elim
 | .refuse _, _, _, _, _, _, h => h.elim
 | .seq x y, Q, a, w, hn, hok, h => by
  simp only [CR, Bool.and_eq_true] at hok;refine wpIn_seq (wpIn_mono (By x _ a w hn hok.1 h) ?_);intro e a w H;obtain ⟨X, W⟩ := H;cases e with
  | normal => exact By y Q a w X hok.2 W
  | _ => exact ⟨X, W⟩
 | .block id c, Q, a, w, hn, hok, h => by
  refine wpIn_block (wpIn_mono (By c _ a w hn hok h) ?_);intro e a w H;obtain ⟨X, W⟩ := H;cases e with
  | exit i =>
   simp only [Exit.inBlock];simp only [BH] at W;by_cases F : i = id
   ·rw [if_pos F] at W ⊢; exact ⟨X, W⟩
   ·rw [if_neg F] at W ⊢; exact ⟨X, W⟩
  | _ => exact ⟨X, W⟩
 | .scope c, Q, a, w, hn, hok, h => by
  simp only [CR, Bool.and_eq_true, Bool.not_eq_true'] at hok;obtain ⟨k, r⟩ := n;cases r with
  | some l => simp at hok
  | none =>
   refine wpIn_wide.2 (wp_scope_straight (wp_mono (wpIn_wide.1 (By (n := ⟨k, none⟩) c _ a w hn hok.2 h)) ?_));intro e a w H;obtain ⟨X, W⟩ := H;cases e with
   | goto l => exact W.elim
   | _ => exact ⟨X, W⟩
 | .cond c x y, Q, a, w, hn, hok, h => by
  simp only [CR, Bool.and_eq_true] at hok;simp only [WC] at h;have j := ev_toFr a;cases hc : ev (CM a) c <;> simp only [hc] at h
  case bool b =>
   refine wpIn_cond (t := b) (by rw [j]; exact hc) ?_;cases b with
   | true => exact By x Q a w hn hok.1 h
   | false => exact By y Q a w hn hok.2 h
  all_goals exact h.elim
 | .region id ops draw, Q, a, w, hn, hok, h => by
  cases draw with
  | false =>
   simp only [CR, Bool.false_or] at hok;exact wpIn_region_list (wpListIn_of_WOps ops.toList a w hn hok h)
  | true => exact h a hn rfl rfl
 | .loop c, Q, a, w, hn, hok, h => by
  obtain ⟨α, I, μ, x, s, B⟩ := h;refine wpIn_loop_ghost (fun (m : Nat) a w => ∃ x, μ x = m ∧ a.tmps.size = n.n ∧ I x (CM a) a.defers w) (μ x) ⟨x, rfl, hn, s⟩ ?_;rintro m a w ⟨x, rfl, X, W⟩;refine wpIn_mono (By c _ a w X hok (B _ _ _ _ W)) ?_;intro e o Z H;obtain ⟨R, d⟩ := H;cases e with
  | normal => obtain ⟨y, f, g⟩ := d; exact ⟨μ y, g, y, rfl, R, f⟩
  | _ => exact ⟨R, d⟩
 | .rangeFunc _ _ _ _, Q, a, w, hn, _, h => h a hn rfl rfl
def tupleOf : LV → Value
 | [v] => v
 | l => .tuple l.toArray
def C4 (P : Program) : List ResultVar → Fr → World → (LV → Prop) → Prop
 | [], _, _, k => k []
 | .tmp t :: r, f, w, k => C4 P r f w fun l => k (f t :: l)
 | .cell a T :: r, f, w, k => ∃ V v, f a = .pointer (some V) ∧ (loadVar T V).run P w = .ok v w ∧ C4 P r f w fun l => k (v :: l)
theorem Dc {P : Program} {w : World} {tmps : Array Value} {g : ResultVar → Sem Value} (b : ∀ t, g (.tmp t) = pure (tmps.getD t undef))
  (p : ∀ a t, g (.cell a t) = (do loadVar t (← asAddr (tmps.getD a undef)))) : ∀ (Z : List ResultVar) (k : LV → Prop), C4 P Z (fun i => tmps.getD i undef) w k →
  ∃ l, k l ∧ (Z.mapM g).run P w = .ok l w
 | [], k, h => ⟨[], h, by simp⟩
 | .tmp t :: r, k, h => by
  obtain ⟨l, X, W⟩ := Dc b p r _ h;refine ⟨_, X, ?_⟩;simp only [List.mapM_cons, b, Sem.run_bind, Sem.run_pure, Result.andThen_ok, W]
 | .cell a T :: r, k, h => by
  obtain ⟨V, v, d, x, c⟩ := h;obtain ⟨l, X, W⟩ := Dc b p r _ c;refine ⟨_, X, ?_⟩;have M : tmps.getD a undef = .pointer (some V) := d;have q : asAddr (.pointer (some V)) = pure V := rfl;simp only [List.mapM_cons, p, M, q, Sem.run_bind, Sem.run_pure, Result.andThen_ok, x, W]
theorem run_results {P : Program} {fn : Func} {w : World} {tmps : Array Value} {k : LV → Prop} (h : C4 P fn.results.toList (fun i => tmps.getD i undef) w k) :
  ∃ l, k l ∧ (results fn tmps).run P w = .ok (tupleOf l) w := by
 unfold results;rw [Array.mapM_eq_mapM_toList];have A : ∀ (x : Sem (LV)), (Functor.map List.toArray x : Sem (Array Value)) = x >>= fun l => pure l.toArray := fun _ => rfl;rw [A];simp only [Sem.run_bind];obtain ⟨l, X, W⟩ := Dc (g := fun | .tmp t => pure (tmps.getD t undef) | .cell a t => do loadVar t (← asAddr (tmps.getD a undef))) (fun _ => rfl) (fun _ _ => rfl) _ _ h;refine ⟨l, X, ?_⟩;refine (congrArg (fun r => Result.andThen (Result.andThen r _) _) W).trans ?_;simp only [Result.andThen_ok, Sem.run_pure]
 match l with
 | [] => rfl
 | [v] => rfl
 | _ :: _ :: _ => rfl
def Cq (P : Program) (fn : Func) (R : Value → World → Prop) (Z : List PanicEntry → World → Prop) : DQ
 | .normal => fun f m w => m = [] ∧ C4 P fn.results.toList f w fun l => R (tupleOf l) w
 | .ret => fun f m w => m = [] ∧ C4 P fn.results.toList f w fun l => R (tupleOf l) w
 | .panic ch => fun _ m w => m = [] ∧ Z ch w
 | _ => fun _ _ _ => False
def FnP (P : Program) (g : FuncId) (args : LV) (w : World) (R : Value → World → Prop) (Z : List PanicEntry → World → Prop) : Prop :=
 Calls P g args.toArray w fun e a => match e with | .returned v => R v a | .panicked ch => Z ch a | .outgrown => False
def Fn (P : Program) (g : FuncId) (args : LV) (w : World) (R : Value → World → Prop) : Prop := FnP P g args w R fun _ _ => False
theorem FnP.mono {P : Program} {g : FuncId} {args : LV} {w : World} {R p : Value → World → Prop} {Z o : List PanicEntry → World → Prop}
  (h : FnP P g args w R Z) (B : ∀ v w', R v w' → p v w') (n : ∀ q w', Z q w' → o q w') : FnP P g args w p o :=
 Calls.mono h fun e w' F => by cases e with
  | returned v => exact B v w' F
  | panicked q => exact n q w' F
  | outgrown => exact F
theorem Fn.mono {P : Program} {g : FuncId} {args : LV} {w : World} {R p : Value → World → Prop}
  (h : Fn P g args w R) (B : ∀ v w', R v w' → p v w') : Fn P g args w p := FnP.mono h B fun _ _ h => h
theorem argF_get : ∀ (l : LV) (i : Nat), argF l i = l.getD i undef
 | [], i => by simp [argF]
 | _ :: _, 0 => rfl
 | _ :: l, i + 1 => by simp [argF, argF_get l i]
theorem toFr_args (l : LV) (k : Nat) : CM { tmps := l.toArray ++ Array.replicate k undef, defers := [] } = argF l := by
 funext i
 rw [argF_get];simp only [CM, Array.getD_eq_getD_getElem?, List.getD_eq_getElem?_getD, Array.getElem?_append];by_cases h : i < l.length
 ·simp [h]
 ·have e : l[i]? = none := List.getElem?_eq_none U;rw [e];simp only [List.size_toArray, h, if_false];by_cases W : i - l.length < k
  ·simp [W]
  ·rw [Array.getElem?_eq_none Dl]
def lv (P : Program) (fn : Func) (R : Value → World → Prop) (Z : List PanicEntry → World → Prop) (f : Fr) : DS → FrameMode → World → Prop
 | [], .returning, w => C4 P fn.results.toList f w fun l => R (tupleOf l) w
 | [], .panicking ch, w => Z ch w
 | [], .run, _ => False
 | d :: ds, u, w => u ≠ .run ∧
   ((∃ r a, d.target = .collected r ∧ (Instr.takeDeferred r).run P w = .ok [] a ∧ lv P fn R Z f ds u a) ∨
    (∃ T x g j, d.target = .fn T x ∧ (invoke d.target d.args).run P w = .ok (.enter g j) w ∧
    CallsDIn Fence.wide 0 P g j u w fun
     | .returned _, u', a => lv P fn R Z f ds (settle u') a
     | .panicked ch, u', a => lv P fn R Z f ds (raised u' ch) a
     | .outgrown, _, _ => False))
def DN (P : Program) (fn : Func) (R : Value → World → Prop) (Z : List PanicEntry → World → Prop) : DQ
 | .normal => fun f m w => lv P fn R Z f m .returning w
 | .ret => fun f m w => lv P fn R Z f m .returning w
 | .panic ch => fun f m w => lv P fn R Z f m (.panicking ch) w
 | _ => fun _ _ _ => False
def endR (R : Value → World → Prop) (Z : List PanicEntry → World → Prop) : Ending → World → Prop
 | .returned v, w => R v w
 | .panicked ch, w => Z ch w
 | .outgrown, _ => False
theorem CE {P : Program} {fn : Func} {R : Value → World → Prop} {Z : List PanicEntry → World → Prop} {tmps : Array Value} : ∀ (ds : DS) (u : FrameMode) (w : World), lv P fn R Z (fun i => tmps.getD i undef) ds u w →
  LeavesInM Fence.wide 0 P fn tmps (endR R Z) ds u w
 | [], .returning, w, h => by
  obtain ⟨l, X, W⟩ := run_results h;exact ⟨_, W, X⟩
 | [], .panicking ch, w, h => h
 | [], .run, w, h => h
 | d :: ds, u, w, h => by
  obtain ⟨o, h⟩ := h;refine ⟨o, ?_⟩;rcases h with ⟨r, b, X, W, a⟩ | ⟨T, x, g, j, X, W, a⟩
  ·exact .inl ⟨r, b, X, W, CE ds u b a⟩
  ·refine .inr ⟨fun n => by simp [Fence.wide] at n, T, x, g, j, X, W, fun _ _ => trivial, a.1, ?_⟩;intro c t m B;obtain ⟨e, p, b, f, z, k⟩ := a.2 c t m B;refine ⟨e, p, b, f, ?_, k⟩;cases e with
   | returned v => exact CE ds _ _ z
   | panicked ch => exact CE ds _ _ z
   | outgrown => exact z.elim
theorem fnD_of_wc {P : Program} {g : FuncId} {fn : Func} {c : Code} {args : LV} {w : World} {R : Value → World → Prop} {Z : List PanicEntry → World → Prop}
  (I : P.funcs[g]? = some fn) (S : fn.body = some c) {n : Nat} (G : fn.ntmps = n) (M : args.length ≤ n) (f : CR n false c = true)
  (h : WC P ⟨n, none⟩ c (DN P fn R Z) (argF args) [] w) : FnP P g args w R Z := by
 have D : (args.toArray ++ Array.replicate (fn.ntmps - args.toArray.size) undef).size = n := by simp [G]; omega
 have t := By (P := P) (n := ⟨n, none⟩) c (DN P fn R Z) { tmps := args.toArray ++ Array.replicate (fn.ntmps - args.toArray.size) undef, defers := [] } w D f (by rw [toFr_args]; exact h)
 have T : CallsIn Fence.wide 0 P g args.toArray w (endR R Z) := by
  refine callsIn_of_wp_marks I S trivial ?_;refine wpIn_mono t ?_;rintro e a b ⟨_, H⟩;cases e with
  | normal => exact CE _ _ _ H
  | ret => exact CE _ _ _ H
  | panic ch => exact CE _ _ _ H
  | exit _ => exact H.elim
  | goto _ => exact H.elim
  | outgrown => exact H.elim
 refine Calls.mono (callsIn_wide.1 T) fun e b F => ?_;cases e <;> exact F
theorem A5 {P : Program} {g : FuncId} {fn : Func} {c : Code} {args : LV} {w : World} {R : Value → World → Prop} {Z : List PanicEntry → World → Prop}
  (I : P.funcs[g]? = some fn) (S : fn.body = some c) {n : Nat} (G : fn.ntmps = n) (M : args.length ≤ n) (f : CR n false c = true)
  (h : WC P ⟨n, none⟩ c (Cq P fn R Z) (argF args) [] w) : FnP P g args w R Z := by
 have D : (args.toArray ++ Array.replicate (fn.ntmps - args.toArray.size) undef).size = n := by simp [G]; omega
 have t := By (P := P) (n := ⟨n, none⟩) c (Cq P fn R Z) { tmps := args.toArray ++ Array.replicate (fn.ntmps - args.toArray.size) undef, defers := [] } w D f (by rw [toFr_args]; exact h)
 have T : CallsIn Fence.wide 0 P g args.toArray w (endR R Z) := by
  refine callsIn_of_wp_marks I S trivial ?_;refine wpIn_mono t ?_;rintro e a b ⟨_, H⟩;cases e with
  | normal => obtain ⟨C, B⟩ := H; simp only [bodyPostM, C]; exact CE [] .returning b B
  | ret => obtain ⟨C, B⟩ := H; simp only [bodyPostM, C]; exact CE [] .returning b B
  | panic ch => obtain ⟨C, B⟩ := H; simp only [bodyPostM, C]; exact CE (R := R) (fn := fn) (tmps := a.tmps) [] (.panicking ch) b B
  | exit _ => exact H.elim
  | goto _ => exact H.elim
  | outgrown => exact H.elim
 refine Calls.mono (callsIn_wide.1 T) fun e b F => ?_;cases e <;> exact F
attribute [irreducible] WC AO Bi BH Be Cq DN BU
section
def Unm (w : World) (b : Nat) : Prop := ∀ (c : Array Value) (t : TypeId) (Z : Nat × Nat), w.heap[b]? = some (.cells c t Z) → Z = (0, 0) ∨ ∀ (i : Nat) (v : Value), c[i]? = some v → ∃ n, v = .int .u8 n
class MK (mk : outParam Prop) : Prop where
 triv : True
structure Keep {mk : Prop} [MK mk] (X : List Nat) (w w' : World) : Prop where
 os : w'.os = w.os
 tape : w'.tape = w.tape
 output : w'.output = w.output
 size : w.heap.size ≤ w'.heap.size
 block : ∀ b, b < w.heap.size → b ∉ X → w'.heap[b]? = w.heap[b]?
 mark : mk → ∀ b, (b < w.heap.size → Unm w b) → Unm w' b
 drawn : w.drawn ≤ w'.drawn
variable {mk : Prop} [MK mk]
abbrev Ext (w w' : World) : Prop := Keep [] w w'
theorem Unm.out {w : World} {b : Nat} (h : w.heap.size ≤ b) : Unm w b := fun c t Z e => by rw [Array.getElem?_eq_none h] at e; cases e
theorem Unm.eq {w w' : World} {b : Nat} (h : Unm w b) (e : w'.heap[b]? = w.heap[b]?) : Unm w' b := fun c t Z X => h c t Z (e ▸ X)
theorem Unm.cells {w : World} {b : Nat} {c : Array Value} {t : TypeId} (h : w.heap[b]? = some (.cells c t (0, 0))) : Unm w b := fun G T Z e => by rw [h] at e; cases e; exact .inl rfl
theorem mark_refl (w : World) : ∀ b, (b < w.heap.size → Unm w b) → Unm w b := fun b h => by
 by_cases S : b < w.heap.size
 ·exact h S
 ·exact Unm.out U
theorem mark_heap {w w' : World} (e : w'.heap = w.heap) : ∀ b, (b < w.heap.size → Unm w b) → Unm w' b := fun b h => (mark_refl w b h).eq (by rw [e])
theorem mark_new {w w' : World} (D : w'.heap.size ≤ w.heap.size + 1) (f : ∀ k, k < w.heap.size → w'.heap[k]? = w.heap[k]?) (G : Unm w' w.heap.size) : ∀ b, (b < w.heap.size → Unm w b) → Unm w' b := fun b h => by
 by_cases S : b < w.heap.size
 ·exact (h S).eq (f b S)
 ·by_cases F : b = w.heap.size
  ·rw [F]; exact G
  ·exact Unm.out U
theorem mark_put {w w' : World} {g : Nat} (D : w'.heap.size = w.heap.size) (f : ∀ k, k ≠ g → w'.heap[k]? = w.heap[k]?) (z : Unm w' g) : ∀ b, (b < w.heap.size → Unm w b) → Unm w' b := fun b h => by
 by_cases F : b = g
 ·rw [F]; exact z
 ·exact (mark_refl w b h).eq (f b F)
theorem mark_obj {w : World} {g : Nat} {o : Obj} (f : ∀ c t Z, o ≠ .cells c t Z) : ∀ b, (b < w.heap.size → Unm w b) → Unm { w with heap := w.heap.setIfInBounds g o } b :=
 mark_put (g := g) O (fun k P => by simp [Ne.symm P]) fun c t Z e => by
  by_cases h : g < w.heap.size
  ·simp [h] at e;exact absurd e (f c t Z)
  ·rw [Array.getElem?_eq_none Dl] at e; cases e
theorem Keep.refl (X : List Nat) (w : World) : Keep X w w := ⟨rfl, rfl, rfl, Nat.le_refl _, fun _ _ _ => rfl, fun _ => mark_refl w, Nat.le_refl _⟩
theorem Ext.refl (w : World) : Ext w w := Keep.refl [] w
theorem Keep.trans {X Y : List Nat} {a b c : World} (h : Keep X a b) (k : Keep Y b c) (u : ∀ x ∈ Y, x < a.heap.size → x ∈ X) : Keep X a c :=
 ⟨k.os.trans h.os, k.tape.trans h.tape, k.output.trans h.output, Nat.le_trans h.size k.size, fun i F V =>
  (k.block i (Nat.lt_of_lt_of_le F h.size) fun K => V (u i K F)).trans (h.block i F V),
  (fun m b S => k.mark m b fun _ => h.mark m b S), Nat.le_trans h.drawn k.drawn⟩
theorem Keep.ext {X : List Nat} {a b c : World} (h : Keep X a b) (k : Ext b c) : Keep X a c := h.trans k (fun _ V => by cases V)
theorem Keep.mono {X Y : List Nat} {a b : World} (h : Keep X a b) (S : ∀ x ∈ X, x ∈ Y) : Keep Y a b :=
 ⟨h.os, h.tape, h.output, h.size, (fun i F V => h.block i F fun A => V (S i A)), h.mark, h.drawn⟩
theorem Ext.any {X : List Nat} {a b : World} (h : Ext a b) : Keep X a b := h.mono fun _ V => by cases V
theorem Ext.E {Y : List Nat} {a b c : World} (h : Ext a b) (k : Keep Y b c) (u : ∀ x ∈ Y, a.heap.size ≤ x) : Ext a c :=
 h.trans k fun x V y => absurd (u x V) U
theorem Ext.trans {a b c : World} (h : Ext a b) (k : Ext b c) : Ext a c := Keep.ext h k
theorem Keep.of_grown {w w' : World} {E : Option Nat} (h : w.grownBy w' E) (C : w.drawn ≤ w'.drawn) (A : mk → ∀ b, (b < w.heap.size → Unm w b) → Unm w' b) : Keep E.toList w w' :=
 ⟨h.os, h.tape, h.output, h.size, (fun k P V => h.block k P fun e => V (by rw [← e]; simp)), A, C⟩
theorem Keep.weak {m : Prop} [i : MK m] [j : MK True] {X : List Nat} {w w' : World} (h : @Keep True j X w w') : @Keep m i X w w' := @Keep.mk m i X w w' (@Keep.os True j X w w' h) (@Keep.tape True j X w w' h) (@Keep.output True j X w w' h) (@Keep.size True j X w w' h) (@Keep.block True j X w w' h) (fun _ => @Keep.mark True j X w w' h trivial) (@Keep.drawn True j X w w' h)
theorem Keep.fresh [j : MK True] {X : List Nat} {w w' : World} (h : @Keep True j X w w') {b : Nat} (S : w.heap.size ≤ b) : Unm w' b := @Keep.mark True j X w w' h trivial b fun h => absurd h U
theorem Keep.cell {X : List Nat} {w w' : World} (h : Keep X w w') {b o : Nat} {v : Value} (T : w.cell? ⟨b, o, none⟩ = some v) (S : b ∉ X) : w'.cell? ⟨b, o, none⟩ = some v := by
 have y := World.block_lt_of_cell? w _ T;exact (World.cell?_of_block (w := w) (h.block b y S)).trans T
def Blk (w : World) (b : Nat) (T : TypeId) (L : LV) : Prop := w.heap[b]? = some (.cells L.toArray T (0, 0))
theorem Blk.lt {w : World} {b : Nat} {T : TypeId} {L : LV} (h : Blk w b T L) : b < w.heap.size := (Array.getElem?_eq_some_iff.1 h).1
theorem Blk.E {X : List Nat} {w w' : World} {b : Nat} {T : TypeId} {L : LV} (h : Blk w b T L) (k : Keep X w w') (S : b ∉ X) : Blk w' b T L := (k.block b h.lt S).trans h
theorem Blk.cell {w : World} {b : Nat} {T : TypeId} {L : LV} (h : Blk w b T L) {o : Nat} {v : Value} (f : L[o]? = some v) : w.cell? ⟨b, o, none⟩ = some v := by
 unfold Blk at h;simp [World.cell?, h, f]
theorem Blk.frozen {w : World} {b : Nat} {T : TypeId} {L : LV} (h : Blk w b T L) (o : Nat) : w.frozen? ⟨b, o, none⟩ = false := by
 unfold Blk at h;simp [World.frozen?, h]
structure New (w w' : World) (T : TypeId) (L : LV) : Prop where
 E : Ext w w'
 size : w'.heap.size = w.heap.size + 1
 D : Blk w' w.heap.size T L
theorem New.mk_alloc (w : World) (L : LV) (T : TypeId) : New w (w.alloc (.cells L.toArray T)) T L :=
 ⟨⟨rfl, rfl, rfl, by simp, fun k P _ => heap_alloc_old w _ P, fun _ => mark_new O (fun k P => heap_alloc_old w _ P) (Unm.cells (heap_alloc_new w _)), Nat.le_refl _⟩, by simp, heap_alloc_new w _⟩
structure Put (w w' : World) (b : Nat) (T : TypeId) (L : LV) : Prop where
 E : Keep [b] w w'
 size : w'.heap.size = w.heap.size
 D : Blk w' b T L
theorem Put.mk_setCell {w : World} {b : Nat} {T : TypeId} {L : LV} (h : Blk w b T L) (o : Nat) (v : Value) : Put w (w.setCell ⟨b, o, none⟩ v) b T (L.set o v) := by
 unfold Blk at h
 have S : Blk (w.setCell ⟨b, o, none⟩ v) b T (L.set o v) := by
  simp only [Blk, World.setCell, Array.getElem?_modify, h];simp
 refine ⟨⟨rfl, rfl, rfl, by simp [World.setCell], fun k _ P => ?_, fun _ => mark_put (g := b) (by simp [World.setCell]) (fun k P => ?_) (Unm.cells S), Nat.le_refl _⟩, by simp [World.setCell], S⟩
 ·exact Below.heap_setCell w ⟨b, o, none⟩ v k (by simpa using P)
 ·exact Below.heap_setCell w ⟨b, o, none⟩ v k (by simpa using P)
def Cells (w : World) (b r : Nat) (cs : LV) : Prop := ∀ (i : Nat) (u : Value), cs[i]? = some u → w.cell? ⟨b, r + i, none⟩ = some u
theorem Cells.E {X : List Nat} {w w' : World} {b r : Nat} {cs : LV} (h : Cells w b r cs) (k : Keep X w w') (S : b ∉ X) : Cells w' b r cs :=
 fun i u a => k.cell (h i u a) S
theorem Blk.cells {w : World} {b : Nat} {T : TypeId} {L : LV} (h : Blk w b T L) : Cells w b 0 L := fun i u r => by rw [Nat.zero_add]; exact h.cell r
theorem Cells.part {w : World} {b a : Nat} {cs : LV} (h : Cells w b a cs) (k n : Nat) : Cells w b (a + k) ((cs.drop k).take n) := by
 intro i u r;rw [List.getElem?_take] at r
 split at r
 ·rw [List.getElem?_drop] at r;rw [Nat.add_assoc];exact h (k + i) u r
 ·cases r
def adv (cap l size : Nat) (a : Option Addr) : Option Addr := if cap = l then a else a.map (·.add (l * size))
def Sl (ok : Nat → Prop) (w : World) (v : Value) (n : Nat) (cs : LV) : Prop :=
 ∃ a x, v = .slice a n x ∧ n ≤ x ∧ x ≤ 9223372036854775807 ∧ (a = none → x = 0) ∧
  (n = 0 ∨ ∃ b r, a = some ⟨b, r, none⟩ ∧ ok b ∧ Cells w b r cs)
theorem Sl.E {ok : Nat → Prop} {X : List Nat} {w w' : World} {v : Value} {n : Nat} {cs : LV} (h : Sl ok w v n cs) (k : Keep X w w') (e : ∀ b, ok b → b ∉ X) : Sl ok w' v n cs := by
 obtain ⟨a, x, q, c, W, R, d⟩ := h;refine ⟨a, x, q, c, W, R, d.imp id ?_⟩;rintro ⟨b, r, H, S, T⟩;exact ⟨b, r, H, S, T.E k (e b S)⟩
theorem Sl.ext {ok : Nat → Prop} {w w' : World} {v : Value} {n : Nat} {cs : LV} (h : Sl ok w v n cs) (k : Ext w w') : Sl ok w' v n cs := h.E k fun _ _ => by simp
theorem Sl.mono {ok ok' : Nat → Prop} {w : World} {v : Value} {n : Nat} {cs : LV} (h : Sl ok w v n cs) (P : ∀ b, ok b → ok' b) : Sl ok' w v n cs := by
 obtain ⟨a, x, q, X, W, R, c⟩ := h;refine ⟨a, x, q, X, W, R, c.imp id ?_⟩;rintro ⟨b, r, H, S, T⟩;exact ⟨b, r, H, P b S, T⟩
theorem New.own {w w' : World} {e size n B : Nat} {out : LV} (h : New w w' e out) (M : out.length = n * size) (G : n ≤ maxLen) (q : B ≤ w.heap.size) : w'.ownsRow B e size (.slice (sm w.heap.size) n n) n out :=
 ⟨M, .inr ⟨w.heap.size, n, out.toArray, rfl, q, h.D, Nat.le_refl _, G, by simpa using M, by rw [← M]; simp⟩⟩
theorem Bf {w : World} {B D e size n : Nat} {v : Value} {xs : LV} (h : w.ownsRow B e size v n xs) (q : D ≤ B) : w.ownsRow D e size v n xs := by
 refine ⟨h.1, h.2.imp id ?_⟩;rintro ⟨g, x, o, a, z, r⟩;exact ⟨g, x, o, a, Nat.le_trans q z, r⟩
theorem Ad {X : List Nat} {w w' : World} {B e size n : Nat} {v : Value} {xs : LV} (h : w.ownsRow B e size v n xs) (k : Keep X w w') (a : ∀ g, v.ownBlock = some g → g ∉ X) : w'.ownsRow B e size v n xs := by
 refine ⟨h.1, h.2.imp id ?_⟩;rintro ⟨g, x, o, rfl, z, u, r⟩;exact ⟨g, x, o, rfl, z, (k.block g (Array.getElem?_eq_some_iff.1 u).1 (a g rfl)).trans u, r⟩
theorem Aa {w w' : World} {B e size n : Nat} {v : Value} {xs : LV} (h : w.ownsRow B e size v n xs) (k : Ext w w') : w'.ownsRow B e size v n xs := Ad h k fun _ _ => by simp
theorem AV {w : World} {B e size n : Nat} {v : Value} {xs : LV} {ok : Nat → Prop} (h : w.ownsRow B e size v n xs) (a : ∀ g, v.ownBlock = some g → ok g) : Sl ok w v n xs := by
 obtain ⟨M, q⟩ := h;rcases q with ⟨rfl, rfl⟩ | ⟨g, x, o, rfl, b, z, f, t, A, S⟩
 ·exact ⟨none, 0, rfl, by omega, by omega, fun _ => rfl, .inl rfl⟩
 ·refine ⟨_, x, rfl, f, by unfold maxLen at t; omega, (fun h => by cases h), .inr ⟨g, 0, rfl, a g rfl, ?_⟩⟩;intro i u r;have y : i < n * size := by rw [← M]; exact (List.getElem?_eq_some_iff.1 r).1
  rw [← S, List.getElem?_take, if_pos y] at r;simp only [World.cell?, z, Nat.zero_add];simpa using r
def AZ : Nat → Prop := fun _ => True
def enc8 (c : UInt8) : Value := .int .u8 (c.toNat : Int)
def cells8 (l : LU) : LV := l.map enc8
theorem cells8_get {l : LU} {i : Nat} (h : i < l.length) : (cells8 l)[i]? = some (enc8 (l.getD i 0)) := by
 simp [cells8, h]
def BytesAt (ok : Nat → Prop) (w : World) (v : Value) (l : LU) : Prop := Sl ok w v l.length (cells8 l)
def LB (ok : Nat → Prop) (w : World) (v : Value) (C : List (LU)) : Prop :=
 ∃ a : LV, Sl ok w v C.length a ∧ a.length = C.length ∧ ∀ (i : Nat) (u : Value) (l : LU), a[i]? = some u → C[i]? = some l → BytesAt ok w u l
end
section
variable {mk : Prop} [MK mk]
attribute [local semireducible] WC AO Bi BH Be Cq DN BU
def aggD : TypeDesc → Bool
 | .struct _ => true
 | .array _ _ => true
 | _ => false
class Cg (P : Program) (T : TypeId) : Prop where
 out : ∃ d, P.underlying T = some d ∧ aggD d = false
class AggT (P : Program) (T : TypeId) (size : outParam Nat) : Prop where
 out : (∃ d, P.underlying T = some d ∧ aggD d = true) ∧ ∃ i, P.info? T = some i ∧ i.size = size
class BQ (P : Program) (T : TypeId) (size : outParam Nat) : Prop where
 out : ∃ i, P.info? T = some i ∧ i.size = size
class Bb (P : Program) (T : TypeId) (L : outParam (LV)) : Prop where
 out : ∃ i z, P.info? T = some i ∧ i.zero = some z ∧ z.cells = L.toArray
class SlT (P : Program) (T : TypeId) (e size bytes : outParam Nat) (z : outParam Value) : Prop where
 und : P.underlying T = some (.slice e)
 out : ∃ i, P.info? e = some i ∧ i.zero = some z ∧ i.size = size ∧ i.bytes = bytes
class ArrT (P : Program) (T : TypeId) (len e size : outParam Nat) : Prop where
 und : P.underlying T = some (.array len e)
 out : ∃ i, P.info? e = some i ∧ i.size = size
class Am (P : Program) (T : TypeId) (i : Nat) (off : outParam Nat) (ft : outParam TypeId) : Prop where
 out : ∃ fs fld, P.underlying T = some (.struct fs) ∧ fs[i]? = some fld ∧ fld.offset = off ∧ fld.type = ft ∧ ∃ j, P.info? ft = some j ∧ j.size ≠ 0
class StrT (P : Program) (T : TypeId) : Prop where
 out : P.underlying T = some .string
class IntT (P : Program) (T : TypeId) (k : outParam IntKind) : Prop where
 out : P.underlying T = some (.int k)
class AD (P : Program) (g : FuncId) : Prop where
 out : ∃ fn, P.funcs[g]? = some fn ∧ ¬ fn.name = "runtime.NumGoroutine" ∧ ¬ fn.body = none
variable {P : Program} {all : Array Oper} {Z : Fr → DS → List PanicEntry → World → Prop} {K : Fr → DS → World → Prop} {rest : List Oper} {f : Fr} {ds : DS} {w : World}
 {d : Nat} {ty : TypeId} {pos : String} {af : Array Edge}
theorem AH (h : K f ds w) : AO P all Z K [] f ds w := h
theorem Aq {o : Oper} {v : Value} {w' : World} (g : o.guard = none) (B : (execOp (ev f) o).run P w = .ok (.value v) w') (h : AO P all Z K rest (putF f o.dst v) ds w') : AO P all Z K (o :: rest) f ds w := by
 unfold AO;rw [g];simp only [A7, if_true, BU, B];exact h
theorem W_skp {o : Oper} {w' : World} (g : o.guard = none) (B : (execOp (ev f) o).run P w = .ok .skip w') (h : AO P all Z K rest (putF f o.dst undef) ds w') : AO P all Z K (o :: rest) f ds w := by
 unfold AO;rw [g];simp only [A7, if_true, BU, B];exact h
theorem AS {E : Option Nat} {N : Op} {j : Nat} {V : Bool} (q : guardVal all f j = some V) (h : AO P all Z K (⟨E, N, ty, pos, af, none⟩ :: rest) f ds w) : AO P all Z K (⟨E, N, ty, pos, af, some (j, V)⟩ :: rest) f ds w := by
 unfold AO at h ⊢;simp only [A7, q, beq_self_eq_true, if_true] at h ⊢;exact h
theorem Ax {E : Option Nat} {N : Op} {j : Nat} {V : Bool} (q : (guardVal all f j == some V) = false) (h : AO P all Z K rest (putF f E undef) ds w) : AO P all Z K (⟨E, N, ty, pos, af, some (j, V)⟩ :: rest) f ds w := by
 unfold AO;have e : A7 all f (some (j, V)) = false := q;simp only [e, Bool.false_eq_true, if_false];exact h
theorem W_move {x : Operand} (h : AO P all Z K rest (upd f d (ev f x)) ds w) : AO P all Z K (⟨some d, .move x, ty, pos, af, none⟩ :: rest) f ds w :=
 Aq rfl (by simp [execOp]) h
theorem W_pick_t {c x y : Operand} (g : ev f c = .bool true) (h : AO P all Z K rest (upd f d (ev f x)) ds w) : AO P all Z K (⟨some d, .pick c x y, ty, pos, af, none⟩ :: rest) f ds w :=
 Aq rfl (by simp [execOp, g, asBool]) h
theorem W_pick_f {c x y : Operand} (g : ev f c = .bool false) (h : AO P all Z K rest (upd f d (ev f y)) ds w) : AO P all Z K (⟨some d, .pick c x y, ty, pos, af, none⟩ :: rest) f ds w :=
 Aq rfl (by simp [execOp, g, asBool]) h
theorem run_zero {T : TypeId} {L : LV} [h : Bb P T L] (w : World) : ∃ z, (zeroValue T).run P w = .ok z w ∧ z.cells = L.toArray := by
 obtain ⟨i, z, F, j, g⟩ := h.out;exact ⟨z, by simp [zeroValue, typeInfo, F, j], g⟩
theorem AQ {T : TypeId} {L : LV} [hT : Bb P T L] (h : ∀ w', New w w' T L → AO P all Z K rest (upd f d (.pointer (sm w.heap.size))) ds w') :
  AO P all Z K (⟨some d, .alloc T, ty, pos, af, none⟩ :: rest) f ds w := by
 obtain ⟨z, i, g⟩ := run_zero (P := P) (T := T) w;refine Aq (v := .pointer (sm w.heap.size)) (w' := w.alloc (.cells L.toArray T)) rfl ?_ (h _ (New.mk_alloc w L T));simp [execOp, Instr.alloc, i, newVar, newRow, newObj, g, Sem.run]
theorem Aj {T : TypeId} {x : Operand} {L : LV} (V : (ev f x).cells = L.toArray) (h : ∀ w', New w w' T L → AO P all Z K rest (upd f d (.pointer (sm w.heap.size))) ds w') :
  AO P all Z K (⟨some d, .box T x, ty, pos, af, none⟩ :: rest) f ds w := by
 refine Aq (v := .pointer (sm w.heap.size)) (w' := w.alloc (.cells L.toArray T)) rfl ?_ (h _ (New.mk_alloc w L T));simp [execOp, Instr.box, newVar, newRow, newObj, V, Sem.run]
theorem AM {T : TypeId} {a : Operand} {b o : Nat} {v : Value} [hT : Cg P T] (H : ev f a = .pointer (some ⟨b, o, none⟩)) (g : w.cell? ⟨b, o, none⟩ = some v) (h : AO P all Z K rest (upd f d v) ds w) :
  AO P all Z K (⟨some d, .load T a, ty, pos, af, none⟩ :: rest) f ds w := by
 obtain ⟨W, X, i⟩ := hT.out;refine Aq (v := v) rfl ?_ h
 have e : (isAgg T).run P w = .ok false w := by
  simp only [isAgg, Sem.run_bind, run_underlying X, Result.andThen_ok];cases W <;> simp_all [aggD]
 simp only [execOp, H, Instr.loadAt, Instr.sureAddr, loadVar, Sem.run_bind, Sem.run_pure, Result.andThen_ok, e];simp [run_load, g]
theorem AR {T : TypeId} {a : Operand} {b o n : Nat} {L : LV} [hT : AggT P T n] (H : ev f a = .pointer (some ⟨b, o, none⟩)) (M : L.length = n) (g : Cells w b o L)
  (h : AO P all Z K rest (upd f d (.agg L.toArray)) ds w) : AO P all Z K (⟨some d, .load T a, ty, pos, af, none⟩ :: rest) f ds w := by
 obtain ⟨⟨W, X, p⟩, i, F, D⟩ := hT.out;refine Aq (v := .agg L.toArray) rfl ?_ h
 have e : (isAgg T).run P w = .ok true w := by
  simp only [isAgg, Sem.run_bind, run_underlying X, Result.andThen_ok];cases W <;> simp_all [aggD]
 have B := run_loadCells_list (P := P) w ⟨b, o, none⟩ L (fun j v m => by rw [Addr.add_lit]; exact g j v m);rw [M, ← D] at B;simp only [execOp, H, Instr.loadAt, Instr.sureAddr, loadVar, Sem.run_bind, Sem.run_pure, Result.andThen_ok, e, if_true, sizeOf, typeInfo, program];simp [Sem.run, F, B]
theorem AN {T D : TypeId} {a x : Operand} {b o : Nat} {v : Value} {L : LV} [hT : BQ P T 1] (H : ev f a = .pointer (some ⟨b, o, none⟩)) (V : ev f x = v) (X : v.oneCell' = true)
  (S : Blk w b D L) (j : o < L.length) (h : ∀ w', Put w w' b D (L.set o v) → AO P all Z K rest f ds w') :
  AO P all Z K (⟨none, .store T a x, ty, pos, af, none⟩ :: rest) f ds w := by
 obtain ⟨i, F, m⟩ := hT.out;refine W_skp (w' := w.setCell ⟨b, o, none⟩ v) rfl ?_ (h _ (Put.mk_setCell S o v));have q : v.cells = #[v] := by cases v <;> simp_all [Value.cells, Value.oneCell']
 have g : w.cell? ⟨b, o, none⟩ = some L[o] := S.cell (by simp [j]);have I := S.frozen o;simp only [execOp, H, V, Instr.storeAt, Instr.sureAddr, storeVar, Sem.run_bind, Sem.run_pure, Result.andThen_ok, sizeOf, typeInfo, program];simp [Sem.run, F, m, q, storeCells, run_store P w _ v .plain X, g, I, Addr.add]
def inR (k : IntKind) (n : Int) : Prop := k.min ≤ n ∧ n ≤ k.max
theorem wrap_in {k : IntKind} {n : Int} (h : inR k n) : k.wrap n = n := by
 obtain ⟨X, W⟩ := h;cases k <;> simp [IntKind.min, IntKind.max, IntKind.signed, IntKind.bits] at X W <;> simp [IntKind.wrap, IntKind.signed, IntKind.bits] <;> omega
theorem Bu {n : Int} (X : -9223372036854775808 ≤ n) (W : n ≤ 9223372036854775807) : inR .i64 n := by
 simp only [inR, IntKind.min, IntKind.max, IntKind.signed, IntKind.bits]; exact ⟨by simpa using X, by simpa using W⟩
theorem Cj {n : Int} (X : 0 ≤ n) (W : n ≤ 255) : inR .u8 n := by
 simp only [inR, IntKind.min, IntKind.max, IntKind.signed, IntKind.bits]; exact ⟨by simpa using X, by simpa using W⟩
theorem Bw {n : Int} (X : 0 ≤ n) (W : n ≤ 65535) : inR .u16 n := by
 simp only [inR, IntKind.min, IntKind.max, IntKind.signed, IntKind.bits]; exact ⟨by simpa using X, by simpa using W⟩
section
variable {x y : Operand} {xt yt : TypeId} {k : IntKind} {a b : Int}
theorem W_add (V : ev f x = .int k a) (g : ev f y = .int k b) (B : inR k (a + b)) (h : AO P all Z K rest (upd f d (.int k (a + b))) ds w) :
  AO P all Z K (⟨some d, .binOp .add xt x y yt, ty, pos, af, none⟩ :: rest) f ds w :=
 Aq rfl EG h
theorem W_sub (V : ev f x = .int k a) (g : ev f y = .int k b) (B : inR k (a - b)) (h : AO P all Z K rest (upd f d (.int k (a - b))) ds w) :
  AO P all Z K (⟨some d, .binOp .sub xt x y yt, ty, pos, af, none⟩ :: rest) f ds w :=
 Aq rfl EG h
theorem W_mul (V : ev f x = .int k a) (g : ev f y = .int k b) (B : inR k (a * b)) (h : AO P all Z K rest (upd f d (.int k (a * b))) ds w) :
  AO P all Z K (⟨some d, .binOp .mul xt x y yt, ty, pos, af, none⟩ :: rest) f ds w :=
 Aq rfl EG h
theorem W_quo (V : ev f x = .int k a) (g : ev f y = .int k b) (H : 0 ≤ a) (S : 0 < b) (B : inR k a) (h : AO P all Z K rest (upd f d (.int k (a / b))) ds w) :
  AO P all Z K (⟨some d, .binOp .quo xt x y yt, ty, pos, af, none⟩ :: rest) f ds w := by
 have e : a.tdiv b = a / b := Int.tdiv_eq_ediv_of_nonneg H;have X : a / b ≤ a := Int.ediv_le_self b H;have i : 0 ≤ a / b := Int.ediv_nonneg H U;have A : k.min ≤ 0 := by cases k <;> decide
 have Q : inR k (a / b) := ⟨by omega, by have := B.2; omega⟩;exact Aq rfl (by simp [execOp, V, g, eqGuard, binOp, Op.intDiv, show ¬ b = 0 by omega, e, wrap_in Q]) h
theorem W_rem (V : ev f x = .int k a) (g : ev f y = .int k b) (H : 0 ≤ a) (S : 0 < b) (h : AO P all Z K rest (upd f d (.int k (a % b))) ds w) :
  AO P all Z K (⟨some d, .binOp .rem xt x y yt, ty, pos, af, none⟩ :: rest) f ds w := by
 have e : a.tmod b = a % b := Int.tmod_eq_emod_of_nonneg H;exact Aq rfl (by simp [execOp, V, g, eqGuard, binOp, Op.intDiv, show ¬ b = 0 by omega, e]) h
theorem W_lss (V : ev f x = .int k a) (h : ev f y = .int k b) (S : a < b → AO P all Z K rest (upd f d (.bool true)) ds w) (I : b ≤ a → AO P all Z K rest (upd f d (.bool false)) ds w) :
  AO P all Z K (⟨some d, .binOp .lss xt x y yt, ty, pos, af, none⟩ :: rest) f ds w := by
 by_cases g : a < b
 ·exact Aq rfl Dz (S g)
 ·exact Aq rfl Dz (I U)
theorem W_leq (V : ev f x = .int k a) (h : ev f y = .int k b) (S : a ≤ b → AO P all Z K rest (upd f d (.bool true)) ds w) (I : b < a → AO P all Z K rest (upd f d (.bool false)) ds w) :
  AO P all Z K (⟨some d, .binOp .leq xt x y yt, ty, pos, af, none⟩ :: rest) f ds w := by
 by_cases g : a ≤ b
 ·exact Aq rfl Dz (S g)
 ·exact Aq rfl Dz (I U)
theorem W_gtr (V : ev f x = .int k a) (h : ev f y = .int k b) (S : b < a → AO P all Z K rest (upd f d (.bool true)) ds w) (I : a ≤ b → AO P all Z K rest (upd f d (.bool false)) ds w) :
  AO P all Z K (⟨some d, .binOp .gtr xt x y yt, ty, pos, af, none⟩ :: rest) f ds w := by
 by_cases g : b < a
 ·exact Aq rfl Dz (S g)
 ·exact Aq rfl Dz (I U)
theorem W_geq (V : ev f x = .int k a) (h : ev f y = .int k b) (S : b ≤ a → AO P all Z K rest (upd f d (.bool true)) ds w) (I : a < b → AO P all Z K rest (upd f d (.bool false)) ds w) :
  AO P all Z K (⟨some d, .binOp .geq xt x y yt, ty, pos, af, none⟩ :: rest) f ds w := by
 by_cases g : b ≤ a
 ·exact Aq rfl Dz (S g)
 ·exact Aq rfl Dz (I U)
theorem W_eql (V : ev f x = .int k a) (h : ev f y = .int k b) (S : a = b → AO P all Z K rest (upd f d (.bool true)) ds w) (I : a ≠ b → AO P all Z K rest (upd f d (.bool false)) ds w) :
  AO P all Z K (⟨some d, .binOp .eql xt x y yt, ty, pos, af, none⟩ :: rest) f ds w := by
 by_cases g : a = b
 ·exact Aq rfl Dz (S g)
 ·exact Aq rfl Dz (I g)
theorem W_neq (V : ev f x = .int k a) (h : ev f y = .int k b) (S : a ≠ b → AO P all Z K rest (upd f d (.bool true)) ds w) (I : a = b → AO P all Z K rest (upd f d (.bool false)) ds w) :
  AO P all Z K (⟨some d, .binOp .neq xt x y yt, ty, pos, af, none⟩ :: rest) f ds w := by
 by_cases g : a = b
 ·exact Aq rfl Dz (I g)
 ·exact Aq rfl Dz (S g)
theorem W_not {c : Bool} (V : ev f x = .bool c) (h : AO P all Z K rest (upd f d (.bool (!c))) ds w) :
  AO P all Z K (⟨some d, .unOp .not xt x, ty, pos, af, none⟩ :: rest) f ds w :=
 Aq rfl (by simp [execOp, V, Op.unary]) h
theorem W_conv [hs : IntT P yt k] {H : IntKind} (V : ev f x = .int H a) (B : inR k a) (h : AO P all Z K rest (upd f d (.int k a)) ds w)
  {E : TypeId} [hst : IntT P E H] : AO P all Z K (⟨some d, .convert E yt x, ty, pos, af, none⟩ :: rest) f ds w :=
 Aq rfl (by simp [execOp, V, convert, run_underlying hs.out, run_underlying hst.out, Conv.intToInt, wrap_in B]) h
end
abbrev AI (l : LU) : Value := .string ⟨l.toArray⟩
section
variable {x y : Operand} {xt yt : TypeId} {s t : LU}
theorem W_seql (V : ev f x = AI s) (h : ev f y = AI t) (S : s = t → AO P all Z K rest (upd f d (.bool true)) ds w) (I : s ≠ t → AO P all Z K rest (upd f d (.bool false)) ds w) :
  AO P all Z K (⟨some d, .binOp .eql xt x y yt, ty, pos, af, none⟩ :: rest) f ds w := by
 by_cases g : s = t
 ·exact Aq rfl (by simp [execOp, V, h, eqGuard, binOp, Op.stringOp, g]) (S g)
 ·exact Aq rfl (by simp [execOp, V, h, eqGuard, binOp, Op.stringOp, g]) (I g)
theorem W_sindex {i : Operand} {k : IntKind} {j : Int} {c : UInt8} [hT : StrT P xt] (V : ev f x = AI s) (F : ev f i = .int k j) (g : 0 ≤ j) (m : s[j.toNat]? = some c) (h : AO P all Z K rest (upd f d (enc8 c)) ds w) :
  AO P all Z K (⟨some d, .index xt x i, ty, pos, af, none⟩ :: rest) f ds w := by
 refine Aq rfl ?_ h;obtain ⟨p, o⟩ := List.getElem?_eq_some_iff.1 m
 have e : (⟨s.toArray⟩ : ByteArray)[j.toNat]? = some c := by
  simp only [getElem?_def, ByteArray.size];simp [p];exact o
 simp [execOp, V, F, Instr.index, asIntOf, run_underlying hT.out, g, e, enc8]
end
theorem AF {T i r : Nat} {S : TypeId} {x : Operand} {b o : Nat} [hT : Am P T i r S] (V : ev f x = .pointer (some ⟨b, o, none⟩)) (h : AO P all Z K rest (upd f d (.pointer (some ⟨b, o + r, none⟩))) ds w) :
  AO P all Z K (⟨some d, .fieldAddr T x i, ty, pos, af, none⟩ :: rest) f ds w := by
 obtain ⟨q, p, X, W, R, g, j, m, B⟩ := hT.out;refine Aq rfl ?_ h;simp only [execOp, V, Instr.fieldAt, Sem.run_bind, run_underlying X, Result.andThen_ok, W, Instr.sureAddr, Sem.run_pure, fieldPlace, sizeOf, typeInfo, program];simp [Sem.run, g, m, B, R, Addr.add_lit]
theorem Cl {T e size N : Nat} {z : Value} {x i : Operand} {b o n c : Nat} {k : IntKind} {j : Int} [hT : SlT P T e size N z] (V : ev f x = .slice (some ⟨b, o, none⟩) n c) (F : ev f i = .int k j)
  (g : 0 ≤ j) (X : j < n) (h : AO P all Z K rest (upd f d (.pointer (some ⟨b, o + j.toNat * size, none⟩))) ds w) :
  AO P all Z K (⟨some d, .indexAddr T x i, ty, pos, af, none⟩ :: rest) f ds w := by
 obtain ⟨q, H, _, D, _⟩ := hT.out;refine Aq rfl ?_ h;simp only [execOp, V, F, Instr.indexAt, asIntOf, Sem.run_bind, Sem.run_pure, Result.andThen_ok, run_underlying hT.und, sizeOf, typeInfo, program];simp [Sem.run, H, D, g, X, Addr.add_lit]
theorem Da {T g e size : Nat} {x i : Operand} {b o : Nat} {k : IntKind} {j : Int} [hT : ArrT P T g e size] (V : ev f x = .pointer (some ⟨b, o, none⟩)) (F : ev f i = .int k j)
  (m : 0 ≤ j) (X : j < g) (h : AO P all Z K rest (upd f d (.pointer (some ⟨b, o + j.toNat * size, none⟩))) ds w) :
  AO P all Z K (⟨some d, .indexAddr T x i, ty, pos, af, none⟩ :: rest) f ds w := by
 obtain ⟨q, H, D⟩ := hT.out;refine Aq rfl ?_ h;simp only [execOp, V, F, Instr.indexAt, asIntOf, Sem.run_bind, Sem.run_pure, Result.andThen_ok, run_underlying hT.und, sizeOf, typeInfo, program, Instr.sureAddr];simp [Sem.run, H, D, m, X, Addr.add_lit]
theorem C5 {T e size N : Nat} {z : Value} {x i : Operand} {b o n c k : Nat} {m : IntKind} {j : Int} [hT : SlT P T e size N z] (V : ev f x = .slice (some ⟨b, o, none⟩) n c) (F : ev f i = .int m j)
  (g : j = (k : Int)) (X : k < n) (h : AO P all Z K rest (upd f d (.pointer (some ⟨b, o + k * size, none⟩))) ds w) :
  AO P all Z K (⟨some d, .indexAddr T x i, ty, pos, af, none⟩ :: rest) f ds w := by
 subst g;exact Cl V F U U Dy
theorem W_idx1 {T e N : Nat} {z : Value} {x i : Operand} {b o n c k : Nat} {m : IntKind} {j : Int} [hT : SlT P T e 1 N z] (V : ev f x = .slice (some ⟨b, o, none⟩) n c) (F : ev f i = .int m j)
  (g : j = (k : Int)) (X : k < n) (h : AO P all Z K rest (upd f d (.pointer (some ⟨b, o + k, none⟩))) ds w) :
  AO P all Z K (⟨some d, .indexAddr T x i, ty, pos, af, none⟩ :: rest) f ds w :=
 C5 V F g X Dy
theorem W_extract {x : Operand} {vs : LV} {i : Nat} {v : Value} (V : ev f x = .tuple vs.toArray) (F : vs[i]? = some v) (h : AO P all Z K rest (upd f d v) ds w) :
  AO P all Z K (⟨some d, .extract x i, ty, pos, af, none⟩ :: rest) f ds w :=
 Aq rfl (by simp [execOp, V, Instr.extract, F]) h
theorem evL_map (f : Fr) : ∀ l : List Operand, evL f l = l.map (ev f)
 | [] => rfl
 | _ :: l => by simp [evL, evL_map f l]
theorem Ap {g : FuncId} {xs : List Operand} {C : Array TypeId} {vs : LV} {R : Value → World → Prop} {Y : List PanicEntry → World → Prop} [hg : AD P g]
  (j : FnP P g vs w R Y) (H : evL f xs = vs) (h : ∀ v w', R v w' → AO P all Z K rest (upd f d v) ds w') (m : ∀ q w', Y q w' → Z f ds q w') :
  AO P all Z K (⟨some d, .call ⟨.value (.func g), xs.toArray, C⟩, ty, pos, af, none⟩ :: rest) f ds w := by
 obtain ⟨o, X, W, i⟩ := hg.out
 have B : (execOp (ev f) ⟨some d, .call ⟨.value (.func g), xs.toArray, C⟩, ty, pos, af, none⟩).run P w = .ok (.enter g vs.toArray) w := by
  rw [evL_map] at H;simp only [execOp, resolve, ev, Deferred.ofValue, Sem.run_bind, Sem.run_pure, Result.andThen_ok, invoke, callFunc, program];simp [Sem.run, X, W, i, ← H]
 unfold AO;simp only [A7, if_true, BU, B];refine Calls.mono j fun e w' F => ?_;cases e with
 | returned v => exact h v w' F
 | panicked q => exact m q w' F
 | outgrown => exact F
theorem AC {g : FuncId} {xs : List Operand} {C : Array TypeId} {vs : LV} {R : Value → World → Prop} [hg : AD P g]
  (i : Fn P g vs w R) (H : evL f xs = vs) (h : ∀ v w', R v w' → AO P all Z K rest (upd f d v) ds w') :
  AO P all Z K (⟨some d, .call ⟨.value (.func g), xs.toArray, C⟩, ty, pos, af, none⟩ :: rest) f ds w :=
 Ap i H h fun _ _ h => h.elim
theorem CD {x : Operand} {T e size N : Nat} {z : Value} {a : Option Addr} {n c : Nat} [hT : SlT P T e size N z] (V : ev f x = .slice a n c) (h : AO P all Z K rest (upd f d (iV (n : Int))) ds w) :
  AO P all Z K (⟨some d, .call ⟨.builtin .len, #[x], #[T]⟩, ty, pos, af, none⟩ :: rest) f ds w := by
 refine Aq (v := iV (n : Int)) rfl ?_ h;simp [execOp, resolve, invoke, builtin, Builtin.len_, V, run_underlying hT.und, goInt]
theorem W_slen {x : Operand} {T : TypeId} {s : LU} [hT : StrT P T] (V : ev f x = AI s) (h : AO P all Z K rest (upd f d (iV (s.length : Int))) ds w) :
  AO P all Z K (⟨some d, .call ⟨.builtin .len, #[x], #[T]⟩, ty, pos, af, none⟩ :: rest) f ds w := by
 refine Aq (v := iV (s.length : Int)) rfl ?_ h;have X : (⟨s.toArray⟩ : ByteArray).size = s.length := rfl;simp [execOp, resolve, invoke, builtin, Builtin.len_, V, run_underlying hT.out, goInt, X]
section
variable {T e size bytes : Nat} {z : Value} {x lo hi : Operand} {a : Option Addr} {n c : Nat} {k k' : IntKind} {l h' : Int}
theorem W_slice_lh [hT : SlT P T e size bytes z] (V : ev f x = .slice a n c) (M : ev f lo = .int k l) (u : ev f hi = .int k' h') (g : 0 ≤ l) (X : l ≤ h') (W : h' ≤ c)
  (h : AO P all Z K rest (upd f d (.slice (adv c l.toNat size a) (h'.toNat - l.toNat) (c - l.toNat))) ds w) :
  AO P all Z K (⟨some d, .slice T x (some lo) (some hi) none, ty, pos, af, none⟩ :: rest) f ds w := by
 obtain ⟨q, H, _, D, _⟩ := hT.out;refine Aq rfl ?_ h;simp only [execOp, V, M, u, Option.map_some, Option.map_none, Instr.sliceAt, Sem.run_bind, run_underlying hT.und, Result.andThen_ok, Instr.slice, Instr.sliceBounds, Instr.sliceBound, asIntOf, Sem.run_pure, sizeOf, typeInfo, program];simp [Sem.run, H, D, g, show (0 : Int) ≤ h' by omega, W, adv];intro A;omega
theorem W_slice_l [hT : SlT P T e size bytes z] (V : ev f x = .slice a n c) (M : ev f lo = .int k l) (g : 0 ≤ l) (X : l ≤ n)
  (h : AO P all Z K rest (upd f d (.slice (adv c l.toNat size a) (n - l.toNat) (c - l.toNat))) ds w) :
  AO P all Z K (⟨some d, .slice T x (some lo) none none, ty, pos, af, none⟩ :: rest) f ds w := by
 obtain ⟨q, H, _, D, _⟩ := hT.out;refine Aq rfl ?_ h;simp only [execOp, V, M, Option.map_some, Option.map_none, Instr.sliceAt, Sem.run_bind, run_underlying hT.und, Result.andThen_ok, Instr.slice, Instr.sliceBounds, Instr.sliceBound, asIntOf, Sem.run_pure, sizeOf, typeInfo, program];simp [Sem.run, H, D, g, X, adv]
theorem W_slice_h [hT : SlT P T e size bytes z] (V : ev f x = .slice a n c) (u : ev f hi = .int k' h') (X : 0 ≤ h') (W : h' ≤ c)
  (h : AO P all Z K rest (upd f d (.slice a h'.toNat c)) ds w) :
  AO P all Z K (⟨some d, .slice T x none (some hi) none, ty, pos, af, none⟩ :: rest) f ds w := by
 obtain ⟨q, H, _, D, _⟩ := hT.out;refine Aq rfl ?_ h;simp only [execOp, V, u, Option.map_some, Option.map_none, Instr.sliceAt, Sem.run_bind, run_underlying hT.und, Result.andThen_ok, Instr.slice, Instr.sliceBounds, Instr.sliceBound, asIntOf, Sem.run_pure, sizeOf, typeInfo, program]
 have e : (if c = 0 then a else a.map fun (x : Addr) => x.add 0) = a := by
  split
  ·rfl
  ·cases a with
   | none => rfl
   | some a => simp [Addr.add]
 simp [Sem.run, H, D, X, W, e]
theorem W_slice_arr {g : Nat} {b o : Nat} [hT : ArrT P T g e size] (V : ev f x = .pointer (some ⟨b, o, none⟩)) (h : AO P all Z K rest (upd f d (.slice (some ⟨b, o, none⟩) g g)) ds w) :
  AO P all Z K (⟨some d, .slice T x none none none, ty, pos, af, none⟩ :: rest) f ds w := by
 obtain ⟨q, H, D⟩ := hT.out;refine Aq rfl ?_ h;simp only [execOp, V, Option.map_none, Instr.sliceAt, Sem.run_bind, run_underlying hT.und, Result.andThen_ok, Instr.sureAddr, Instr.sliceBounds, Sem.run_pure, sizeOf, typeInfo, program];simp [Sem.run, H, D, Addr.add_lit]
end
end
section
variable {mk : Prop} [MK mk]
attribute [local semireducible] WC AO Bi BH Be Cq DN BU
variable {P : Program} {all : Array Oper} {Z : Fr → DS → List PanicEntry → World → Prop} {K : Fr → DS → World → Prop} {rest : List Oper} {f : Fr} {ds : DS} {w : World}
 {d : Nat} {ty : TypeId} {pos : String} {af : Array Edge}
def oneC (cs : LV) : Prop := ∀ u ∈ cs, u.oneCell' = true
structure Apd (w w' : World) (B : Nat) (e size : Nat) (v v' : Value) (n : Nat) (xs : LV) : Prop where
 own : w'.ownsRow B e size v' n xs
 E : Keep v.ownBlock.toList w w'
 D : v'.ownBlock = v.ownBlock ∨ v'.ownBlock = some w.heap.size
 some : n ≠ 0 → v'.ownBlock ≠ none
theorem own_some {w : World} {B e size : Nat} {v : Value} {n : Nat} {xs : LV} (h : w.ownsRow B e size v n xs) (G : n ≠ 0) : v.ownBlock ≠ none := by
 rcases h.2 with ⟨_, s⟩ | ⟨g, _, _, rfl, _⟩
 ·exact absurd s G
 ·simp [Value.ownBlock]
theorem run_append_sl {T e size N : Nat} {z : Value} (C : SlT P T e size N z) (a9 : 0 < size) (b0 : z.cells.size = size) (t : TypeId) {B : Nat} {v sv : Value} {n m : Nat} {xs cs : LV} {ok : Nat → Prop}
  (h : w.ownsRow B e size v n xs) (hs : Sl ok w sv m cs) (M : cs.length = m * size) (X : oneC cs) (hm : n + m ≤ maxLen) (S : (n + m) * N ≤ 140737488355328) (hB : B ≤ w.heap.size) :
  ∃ p w', (Builtin.append_ #[T, T] t #[v, sv]).run P w = .ok p w' ∧ Apd w w' B e size v p (n + m) (xs ++ cs) := by
 obtain ⟨i, F, I, q, L⟩ := C.out;obtain ⟨a, y, rfl, b1, _, a8, a6⟩ := hs;cases a with
 | none =>
  have a5 := a8 rfl;subst a5;obtain rfl : m = 0 := by omega
  obtain rfl : cs = [] := List.eq_nil_of_length_eq_zero (by simpa using M);have l := run_append_owned_none (P := P) w B T t e i size C.und F v n xs h;exact ⟨v, w, l, by simpa using h, Keep.refl _ _, .inl rfl, fun G => own_some h U⟩
 | some ad =>
  have A : ∀ j u, cs[j]? = some u → w.cell? (ad.add j) = some u := by
   intro j u r;rcases a6 with s | ⟨b, b5, he, _, hc⟩
   ·subst s;have : cs = [] := List.eq_nil_of_length_eq_zero (by simpa using M);rw [this] at r; simp at r
   ·cases he;rw [Addr.add_lit];exact hc j u r
  obtain ⟨p, w', l, D, hg, b2⟩ := run_append_own (P := P) w B T t e i z size N C.und F I q L b0 a9 v n xs h ad m y cs M A X hm S hB;have a1 : ((n + m : Nat) : Int) ≤ 9223372036854775807 := by simp only [maxLen] at hm; omega
  have a3 : ∀ o c, o = Obj.cells c e (0, 0) → ∀ b, (b < w.heap.size → Unm w b) → Unm (w.drew.alloc o) b := fun o c D => mark_new O (fun k H => heap_alloc_old w.drew o H) (Unm.cells (c := c) (t := e) (by rw [← D]; exact heap_alloc_new w.drew o))
  have W : (∀ b, (b < w.heap.size → Unm w b) → Unm w' b) ∧ (p.ownBlock = v.ownBlock ∨ p.ownBlock = some w.heap.size) ∧ w.drawn ≤ w'.drawn := by
   rcases h.2 with ⟨rfl, rfl⟩ | ⟨g, E, a4, rfl, _, a0, b3, _, a7, b4⟩
   ·by_cases s : m = 0
    ·subst s;have G : cs = [] := List.eq_nil_of_length_eq_zero (by simpa using M);subst G
     have V : (Builtin.append_ #[T, T] t #[.slice none 0 0, .slice (some ad) 0 y]).run P w = .ok (.slice none 0 0) w := by
      simp [Builtin.append_, run_underlying C.und, sizeOf, typeInfo, F, Builtin.lenOf, Builtin.firstCells, loadCells, loadCellsFrom]
     rw [l] at V;cases V;exact ⟨mark_refl w, .inl rfl, Nat.le_refl _⟩
    ·have V := run_append_nil (P := P) w T t e i z C.und F I ad m y cs (by rw [q]; exact M) A U (by simpa using a1) (by rw [L]; have := S; simp only [Nat.zero_add] at this; omega);rw [l] at V;cases V;exact ⟨a3 _ _ rfl, .inr rfl, Nat.le_succ _⟩
   ·by_cases a2 : n + m ≤ E
    ·have V := run_append_room (P := P) w T t e i C.und F g n E a4 a0 ad m y cs (by rw [q]; exact M) A X a2 (by rw [M, a7, q, ← Nat.add_mul]; exact Nat.mul_le_mul_right _ a2);rw [l] at V;cases V;exact ⟨mark_put (g := g) (by simp [World.setRow]) (fun k H => setRow_other w g k _ H) (Unm.cells (setRow_heap w g _ _ e _ a0)), .inl rfl, Nat.le_refl _⟩
    ·have V := run_append_grow (P := P) w T t e i z C.und F I ⟨g, 0, none⟩ n E xs (by rw [q]; exact h.1) (fun j u r => h.cells (g := g) rfl j u r) ad m y cs (by rw [q]; exact M) A U a1 (by rw [L]; exact growslice_fits U S);rw [l] at V;cases V;exact ⟨a3 _ _ rfl, .inr rfl, Nat.le_succ _⟩
  exact ⟨p, w', l, D, Keep.of_grown hg W.2.2 (fun _ => W.1), W.2.1, fun G => own_some D G⟩
theorem Ak {T e size N : Nat} {z : Value} {s x : Operand} {B n m : Nat} {v sv : Value} {xs cs : LV} {ok : Nat → Prop} [hT : SlT P T e size N z] (b : ev f s = v) (V : ev f x = sv)
  (C : w.ownsRow B e size v n xs) (D : Sl ok w sv m cs) (F : 0 < size) (c : z.cells.size = size) (M : cs.length = m * size) (X : oneC cs) (A : n + m ≤ 9223372036854775807) (S : (n + m) * N ≤ 140737488355328) (q : B ≤ w.heap.size)
  (h : ∀ p w', Apd w w' B e size v p (n + m) (xs ++ cs) → AO P all Z K rest (upd f d p) ds w') :
  AO P all Z K (⟨some d, .call ⟨.builtin .append, #[s, x], #[T, T]⟩, ty, pos, af, none⟩ :: rest) f ds w := by
 obtain ⟨p, w', a, H⟩ := run_append_sl (P := P) hT F c ty C D M X Dq S q;refine Aq (v := p) (w' := w') rfl ?_ (h p w' H);simp [execOp, resolve, invoke, builtin, b, V, a]
theorem W_make {T e size a : Nat} {z : Value} {l c : Operand} {k H : IntKind} {n : Nat} {N M : Int} [hT : SlT P T e size a z] (m : ev f l = .int k N) (j : ev f c = .int H M) (b : N = (n : Int)) (V : M = (n : Int)) (S : a * n ≤ 281474976710656) (A : n ≤ maxLen)
  (h : ∀ w', New w w' e (madeCells z.cells (n * size)).toList → AO P all Z K rest (upd f d (.slice (sm w.heap.size) n n)) ds w') :
  AO P all Z K (⟨some d, .makeSlice T l c, ty, pos, af, none⟩ :: rest) f ds w := by
 subst b;subst V;obtain ⟨i, F, q, p, L⟩ := hT.out;have o : (n : Int) ≤ 9223372036854775807 := by simp only [maxLen] at A; omega
 have g : (i.bytes : Int) * (n : Int) ≤ 281474976710656 := by
  rw [L];have h : ((a * n : Nat) : Int) ≤ 281474976710656 := by omega
  rwa [Int.natCast_mul] at h
 have B := run_make (P := P) w T e i z hT.und F q k H n n U (Int.le_refl _) g o;refine Aq (v := .slice (sm w.heap.size) n n) (w' := w.alloc (.cells (madeCells z.cells (n * size)).toList.toArray e)) rfl ?_ (h _ (New.mk_alloc w _ e));simp [execOp, m, j, B, p]
theorem AE {T D n : Nat} {a x : Operand} {b o : Nat} {cs L : LV} [hT : BQ P T n] (H : ev f a = .pointer (some ⟨b, o, none⟩)) (V : ev f x = .agg cs.toArray) (G : cs.length = n) (X : oneC cs)
  (S : Blk w b D L) (j : o + n ≤ L.length) (h : ∀ w', Put w w' b D (splice L o cs) → AO P all Z K rest f ds w') :
  AO P all Z K (⟨none, .store T a x, ty, pos, af, none⟩ :: rest) f ds w := by
 obtain ⟨i, F, e⟩ := hT.out;have z : w.heap[b]? = some (.cells L.toArray D (0, 0)) := S;have E := run_storeCells_at P b o D cs 0 L.toArray w z Dl X;simp only [Nat.add_zero] at E;refine W_skp (w' := w.setRow b (splice L o cs).toArray) rfl ?_ (h _ ⟨⟨rfl, rfl, rfl, by simp [World.setRow], fun k _ c => setRow_other w b k _ (by simpa using c), fun _ => mark_put (g := b) (by simp [World.setRow]) (fun k c => setRow_other w b k _ c) (Unm.cells (setRow_heap w b _ _ D _ z)), Nat.le_refl _⟩, by simp [World.setRow], setRow_heap w b _ _ D _ z⟩);simp only [execOp, H, V, Instr.storeAt, Instr.sureAddr, storeVar, Sem.run_bind, Sem.run_pure, Result.andThen_ok, sizeOf, typeInfo, program, Value.cells];simp [Sem.run, F, e, G];rw [E];simp [splice]
class StT (P : Program) (T : TypeId) (places : outParam (List (Nat × Nat))) (zero : outParam (LV)) : Prop where
 out : ∃ fs i z, P.underlying T = some (.struct fs) ∧ P.info? T = some i ∧ i.zero = some z ∧ z.cells = zero.toArray ∧
  ∀ w, (fs.mapM (m := Sem) fun f => do pure (f.offset, ← sizeOf f.type)).run P w = .ok places.toArray w
def fillL (N : Nat → Option (Nat × Nat)) (m : LV) : List (Nat × Value) → Option (LV)
 | [] => some m
 | (i, v) :: rest =>
  match N i with
  | none => none
  | some (off, size) => if v.cells.size = size ∧ off + size ≤ m.length then fillL N (splice m off v.cells.toList) rest else none
theorem foldl_set (cs : LV) : ∀ (k r : Nat) (m : Array Value), r + k + cs.length ≤ m.size →
  (cs.zipIdx k).foldl (fun (a : Array Value) (p : Value × Nat) => a.setIfInBounds (r + p.2) p.1) m = (splice m.toList (r + k) cs).toArray := by
 induction cs with
 | nil => intro k r m _; simp [splice]
 | cons c cs ih =>
  intro k r m h;simp only [List.zipIdx_cons, List.foldl_cons];simp only [List.length_cons] at h;rw [ih (k + 1) r _ Dl]
  congr 1
  simp only [splice, Array.toList_setIfInBounds, List.length_cons];have e : r + (k + 1) = r + k + 1 := by omega
  rw [e, List.take_set, List.drop_set, if_pos U];rw [List.take_succ_eq_append_getElem Dl];rw [List.set_append_right _ _ Dl];have z : r + k - min (r + k) m.size = 0 := by omega
  have W : r + k + 1 + cs.length = r + k + (cs.length + 1) := by omega
  simp [z, W]
theorem fill_of_fillL (N : Nat → Option (Nat × Nat)) : ∀ (A : List (Nat × Value)) (m out : LV), fillL N m A = some out → Instr.fill N m.toArray A = some out.toArray
 | [], m, out, h => by simp only [fillL, Option.some.injEq] at h; subst h; rfl
 | (i, v) :: rest, m, out, h => by
  simp only [fillL] at h;simp only [Instr.fill];cases hp : N i with
  | none => simp [hp] at h
  | some p =>
   obtain ⟨r, b⟩ := p;simp only [hp] at h
   split at h
   ·rename_i hc;obtain ⟨X, W⟩ := hc
    have a : (v.cells.size ≠ b || decide (r + v.cells.size > m.toArray.size)) = false := by
     simp [X]; omega
    simp only [a, Bool.false_eq_true, if_false]
    have I : v.cells.zipIdx.foldl (fun cs (x : Value × Nat) => match x with | (c, j) => cs.setIfInBounds (r + j) c) m.toArray = (splice m r v.cells.toList).toArray := by
     rw [← Array.foldl_toList];have := foldl_set v.cells.toList 0 r m.toArray Dl;simpa using this
    rw [I];exact fill_of_fillL N rest _ _ h
   ·cases h
def evP (f : Fr) : List (Nat × Operand) → List (Nat × Value)
 | [] => []
 | (i, x) :: l => (i, ev f x) :: evP f l
theorem evP_map (f : Fr) : ∀ l : List (Nat × Operand), evP f l = l.map fun p => (p.1, ev f p.2)
 | [] => rfl
 | (i, x) :: l => by simp [evP, evP_map f l]
theorem Bo {T : TypeId} {A : List (Nat × Operand)} {vs : List (Nat × Value)} {H : List (Nat × Nat)} {zero out : LV} [hT : StT P T H zero] (q : evP f A = vs) (j : fillL (fun i => H[i]?) zero vs = some out)
  (h : AO P all Z K rest (upd f d (.agg out.toArray)) ds w) : AO P all Z K (⟨some d, .build T A.toArray, ty, pos, af, none⟩ :: rest) f ds w := by
 obtain ⟨m, i, z, X, W, b, c, g⟩ := hT.out;refine Aq rfl ?_ h;rw [evP_map] at q;have l := fill_of_fillL _ _ _ _ j;have k : (zeroValue T).run P w = .ok z w := by simp [zeroValue, typeInfo, W, b]
 have e : Array.map (fun (x : Nat × Operand) => match x with | (i, x) => (i, ev f x)) A.toArray = vs.toArray := by
  rw [← q]; simp
 simp only [execOp, e, Instr.build, Sem.run_bind, k, Result.andThen_ok, run_underlying X, c];rw [g w];simp only [Result.andThen_ok];have a : (fun i : Nat => H.toArray[i]?) = fun i => H[i]? := by funext i; simp
 rw [a, l];simp
theorem W_buildArr {T s e size : Nat} {A : List (Nat × Operand)} {vs : List (Nat × Value)} {zero out : LV} [hT : ArrT P T s e size] [hZ : Bb P T zero] (q : evP f A = vs) (a : fillL (fun i => some (i * size, size)) zero vs = some out)
  (h : AO P all Z K rest (upd f d (.agg out.toArray)) ds w) : AO P all Z K (⟨some d, .build T A.toArray, ty, pos, af, none⟩ :: rest) f ds w := by
 obtain ⟨j, y, D⟩ := hT.out;obtain ⟨z, b, M⟩ := run_zero (P := P) (T := T) w;refine Aq rfl ?_ h;rw [evP_map] at q;have l := fill_of_fillL _ _ _ _ a
 have e : Array.map (fun (x : Nat × Operand) => match x with | (i, x) => (i, ev f x)) A.toArray = vs.toArray := by
  rw [← q]; simp
 simp only [execOp, e, Instr.build, Sem.run_bind, b, Result.andThen_ok, run_underlying hT.und, M, sizeOf, typeInfo, program];simp [Sem.run, y, D, l]
theorem AL {T e size N n : Nat} {z : Value} {A : List (Nat × Operand)} {vs : List (Nat × Value)} {out : LV} [hT : SlT P T e size N z] (q : evP f A = vs) (G : n * size ≤ 16777216)
  (g : fillL (fun i => some (i * size, size)) (madeCells z.cells (n * size)).toList vs = some out)
  (h : ∀ w', New w w' e out → AO P all Z K rest (upd f d (.slice (sm w.heap.size) n n)) ds w') : AO P all Z K (⟨some d, .buildSlice T n A.toArray, ty, pos, af, none⟩ :: rest) f ds w := by
 obtain ⟨i, F, k, B, L⟩ := hT.out;refine Aq (v := .slice (sm w.heap.size) n n) (w' := w.alloc (.cells out.toArray e)) rfl ?_ (h _ (New.mk_alloc w _ e));rw [evP_map] at q;have l := fill_of_fillL _ _ _ _ g
 have a : Array.map (fun (x : Nat × Operand) => match x with | (i, x) => (i, ev f x)) A.toArray = vs.toArray := by
  rw [← q]; simp
 have c : ¬ (16777216 < n * size) := by omega
 have b : (madeCells z.cells (n * size)).toList.toArray = (Array.range (n * size)).map (fun j => z.cells[j % z.cells.size]!) := by rw [Array.toArray_toList]; rfl
 rw [b] at l;simp only [execOp, a, Instr.buildSlice, Sem.run_bind, run_underlying hT.und, Result.andThen_ok, sizeOf, typeInfo, program];by_cases s : n * size = 0
 ·simp [s, Array.range_zero'] at l;simp [Sem.run, F, B, s, Array.range_zero', l, newRow, newObj]
 ·simp [Sem.run, F, B, s, c, k, zeroValue, typeInfo, l, newRow, newObj]
theorem Ce {T e N n : Nat} {z : Value} {A : List (Nat × Operand)} {vs : List (Nat × Value)} {out : LV} [hT : SlT P T e 1 N z] (b : z.cells = #[z]) (G : n ≤ 16777216) (q : evP f A = vs)
  (a : fillL (fun i => some (i, 1)) (List.replicate n z) vs = some out)
  (h : ∀ w', New w w' e out → AO P all Z K rest (upd f d (.slice (sm w.heap.size) n n)) ds w') : AO P all Z K (⟨some d, .buildSlice T n A.toArray, ty, pos, af, none⟩ :: rest) f ds w := by
 refine AL q U ?_ h;rw [b, Nat.mul_one, toList_madeCells_one];have e : (fun i : Nat => some (i * 1, 1)) = fun i => some (i, 1) := by funext i; rw [Nat.mul_one]
 rw [e];exact a
theorem W_make1 {T e a : Nat} {z : Value} {l c : Operand} {k H : IntKind} {n : Nat} {N M : Int} [hT : SlT P T e 1 a z] (j : z.cells = #[z]) (i : ev f l = .int k N) (g : ev f c = .int H M) (b : N = (n : Int)) (V : M = (n : Int)) (S : a * n ≤ 281474976710656) (A : n ≤ 9223372036854775807)
  (h : ∀ w', New w w' e (List.replicate n z) → AO P all Z K rest (upd f d (.slice (sm w.heap.size) n n)) ds w') :
  AO P all Z K (⟨some d, .makeSlice T l c, ty, pos, af, none⟩ :: rest) f ds w :=
 W_make i g b V S Dq fun w' L => h w' (by rw [j, Nat.mul_one, toList_madeCells_one] at L; exact L)
theorem Dd {g : FuncId} {a m : List Operand} {v1 v2 : LV} (X : evL f a = v1) (W : evL f m = v2) (h : AO P all Z K rest (upd f d (.func (.func g) v1.toArray v2.toArray)) ds w) :
  AO P all Z K (⟨some d, .makeFunc (.func g) a.toArray m.toArray, ty, pos, af, none⟩ :: rest) f ds w := by
 refine Aq rfl ?_ h;rw [evL_map] at X W;simp [execOp, Instr.makeFunc, ← X, ← W]
theorem Cu {g : FuncId} {t : Nat} {xs : List Operand} {C : Array TypeId} {vs v1 v2 : LV} {R : Value → World → Prop} {Y : List PanicEntry → World → Prop} [hg : AD P g]
  (I : f t = .func (.func g) v1.toArray v2.toArray) (T : FnP P g (v1 ++ vs ++ v2) w R Y) (H : evL f xs = vs) (h : ∀ v w', R v w' → AO P all Z K rest (upd f d v) ds w') (b : ∀ q w', Y q w' → Z f ds q w') :
  AO P all Z K (⟨some d, .call ⟨.value (.tmp t), xs.toArray, C⟩, ty, pos, af, none⟩ :: rest) f ds w := by
 obtain ⟨c, X, W, a⟩ := hg.out
 have B : (execOp (ev f) ⟨some d, .call ⟨.value (.tmp t), xs.toArray, C⟩, ty, pos, af, none⟩).run P w = .ok (.enter g (v1 ++ vs ++ v2).toArray) w := by
  rw [evL_map] at H;simp only [execOp, resolve, ev, I, Deferred.ofValue, Sem.run_bind, Sem.run_pure, Result.andThen_ok, invoke, callFunc, program];simp [Sem.run, X, W, a, ← H]
 unfold AO;simp only [A7, if_true, BU, B];refine Calls.mono T fun e w' F => ?_;cases e with
 | returned v => exact h v w' F
 | panicked q => exact b q w' F
 | outgrown => exact F
theorem Av {g : FuncId} {t : Nat} {xs : List Operand} {C : Array TypeId} {vs v1 v2 : LV} {R : Value → World → Prop} [hg : AD P g]
  (I : f t = .func (.func g) v1.toArray v2.toArray) (T : Fn P g (v1 ++ vs ++ v2) w R) (H : evL f xs = vs) (h : ∀ v w', R v w' → AO P all Z K rest (upd f d v) ds w') :
  AO P all Z K (⟨some d, .call ⟨.value (.tmp t), xs.toArray, C⟩, ty, pos, af, none⟩ :: rest) f ds w :=
 Cu I T H h fun _ _ h => h.elim
theorem AG {g : FuncId} {fn : Func} {c : Code} {args : LV} {R : Value → World → Prop} (I : P.funcs[g]? = some fn) (S : fn.body = some c) {n : Nat} (G : fn.ntmps = n) (h : WC P ⟨n, none⟩ c (Cq P fn R fun _ _ => False) (argF args) [] w) (M : args.length ≤ n := by exact Nat.le_of_ble_eq_true rfl) (a : CR n false c = true := by kernel_rfl) : Fn P g args w R := A5 I S G M a h
section
variable {fn : Func} {R : Value → World → Prop} {Y : List PanicEntry → World → Prop} {t u v : Nat}
theorem fin_ret0 (B : fn.results.toList = []) (h : R (.tuple #[]) w) : Cq P fn R Y .ret f [] w := ⟨rfl, by rw [B]; exact h⟩
theorem BF (B : fn.results.toList = []) (h : R (.tuple #[]) w) : Cq P fn R Y .normal f [] w := ⟨rfl, by rw [B]; exact h⟩
theorem AA (B : fn.results.toList = [.tmp t]) (h : R (f t) w) : Cq P fn R Y .ret f [] w := ⟨rfl, by rw [B]; exact h⟩
theorem Cv (B : fn.results.toList = [.tmp t, .tmp u]) (h : R (.tuple #[f t, f u]) w) : Cq P fn R Y .ret f [] w := ⟨rfl, by rw [B]; exact h⟩
theorem fin_ret3 (B : fn.results.toList = [.tmp t, .tmp u, .tmp v]) (h : R (.tuple #[f t, f u, f v]) w) : Cq P fn R Y .ret f [] w := ⟨rfl, by rw [B]; exact h⟩
theorem DY {T n b o : Nat} {L : LV} (C : AggT P T n) (M : L.length = n) (a : Cells w b o L) : (loadVar T ⟨b, o, none⟩).run P w = .ok (.agg L.toArray) w := by
 obtain ⟨⟨W, X, c⟩, i, F, D⟩ := C.out
 have e : (isAgg T).run P w = .ok true w := by
  simp only [isAgg, Sem.run_bind, run_underlying X, Result.andThen_ok];cases W <;> simp_all [aggD]
 have B := run_loadCells_list (P := P) w ⟨b, o, none⟩ L (fun j v y => by rw [Addr.add_lit]; exact a j v y);rw [M, ← D] at B;simp only [loadVar, Sem.run_bind, Result.andThen_ok, e, if_true, sizeOf, typeInfo, program];simp [Sem.run, F, B]
theorem AT {T n b o : Nat} {L : LV} [hT : AggT P T n] (B : fn.results.toList = [.cell t T]) (H : f t = .pointer (some ⟨b, o, none⟩)) (M : L.length = n) (a : Cells w b o L) (h : R (.agg L.toArray) w) : Cq P fn R Y .ret f [] w :=
 ⟨rfl, by rw [B]; exact ⟨_, _, H, DY hT M a, h⟩⟩
theorem Bm {T n b o : Nat} {L : LV} [hT : AggT P T n] (B : fn.results.toList = [.cell t T, .tmp u]) (H : f t = .pointer (some ⟨b, o, none⟩)) (M : L.length = n) (a : Cells w b o L) (h : R (.tuple #[.agg L.toArray, f u]) w) : Cq P fn R Y .ret f [] w :=
 ⟨rfl, by rw [B]; exact ⟨_, _, H, DY hT M a, h⟩⟩
end
variable {n : Cf} {Q : DQ}
theorem C_seq {a b : Code} (h : WC P n a (Bi (WC P n b Q) Q) f ds w) : WC P n (.seq a b) Q f ds w := h
theorem C_block {id : Nat} {c : Code} (h : WC P n c (BH id Q) f ds w) : WC P n (.block id c) Q f ds w := h
theorem C_scope {c : Code} (h : WC P n c (Be Q) f ds w) : WC P n (.scope c) Q f ds w := h
theorem AJ {id : Nat} {ops : List Oper} (h : AO P ops.toArray (fun f ds q w => Q (.panic q) f ds w) (Q .normal) ops f ds w) : WC P n (.region id ops.toArray false) Q f ds w := h
theorem C_skip (h : Q .normal f ds w) : WC P n .skip Q f ds w := h
theorem C_label {l : Nat} (h : Q .normal f ds w) : WC P n (.label l) Q f ds w := h
theorem C_ret (h : Q .ret f ds w) : WC P n .ret Q f ds w := h
theorem C_exit {id : Nat} (h : Q (.exit id) f ds w) : WC P n (.exit id) Q f ds w := h
theorem C_cond_t {c : Operand} {x y : Code} (T : ev f c = .bool true) (h : WC P n x Q f ds w) : WC P n (.cond c x y) Q f ds w := by
 simp only [WC, T, if_true]; exact h
theorem C_cond_f {c : Operand} {x y : Code} (T : ev f c = .bool false) (h : WC P n y Q f ds w) : WC P n (.cond c x y) Q f ds w := by
 simp only [WC, T, Bool.false_eq_true, if_false]; exact h
theorem Q_then {k : Fr → DS → World → Prop} (h : k f ds w) : Bi k Q .normal f ds w := h
theorem Q_then_ret {k : Fr → DS → World → Prop} (h : Q .ret f ds w) : Bi k Q .ret f ds w := h
theorem Q_then_exit {k : Fr → DS → World → Prop} {i : Nat} (h : Q (.exit i) f ds w) : Bi k Q (.exit i) f ds w := h
theorem Q_then_panic {k : Fr → DS → World → Prop} {c : List PanicEntry} (h : Q (.panic c) f ds w) : Bi k Q (.panic c) f ds w := h
theorem Q_block {id : Nat} (h : Q .normal f ds w) : BH id Q .normal f ds w := h
theorem Q_block_ret {id : Nat} (h : Q .ret f ds w) : BH id Q .ret f ds w := h
theorem Q_block_panic {id : Nat} {c : List PanicEntry} (h : Q (.panic c) f ds w) : BH id Q (.panic c) f ds w := h
theorem Q_block_here {id : Nat} (h : Q .normal f ds w) : BH id Q (.exit id) f ds w := by simp only [BH, if_true]; exact h
theorem Q_block_on {id i : Nat} (F : Nat.beq i id = false) (h : Q (.exit i) f ds w) : BH id Q (.exit i) f ds w := by
 have : ¬ i = id := fun e => by subst e; simp at F
 simp only [BH, if_neg this]; exact h
theorem Ah {α : Type} (L : α → List (Nat × Value)) (I : α → World → Prop) (μ : α → Nat) (g : α) {c : Code} (s : agr (L g) f) (E : I g w)
  (B : ∀ x w e, I x w → WC P n c (Bi (fun i b j => ∃ y, (b = ds ∧ agr (L y) i ∧ I y j) ∧ μ y < μ x) Q) (ov (L x) e) ds w) : WC P n (.loop c) Q f ds w := by
 refine ⟨α, fun x f a w => a = ds ∧ agr (L x) f ∧ I x w, μ, g, ⟨rfl, s, E⟩, ?_⟩;rintro x f a w ⟨rfl, X, W⟩;have h := B x w f W;rw [ov_of_agr X] at h;exact h
section
variable {x : Operand}
theorem Af {k : IntKind} {a : Int} (V : ev f x = .int k a) (h : AO P all Z K rest (upd f d (.int k a)) ds w) : AO P all Z K (⟨some d, .move x, ty, pos, af, none⟩ :: rest) f ds w := W_move D6
theorem Az {a : Option Addr} {l c : Nat} (V : ev f x = .slice a l c) (h : AO P all Z K rest (upd f d (.slice a l c)) ds w) : AO P all Z K (⟨some d, .move x, ty, pos, af, none⟩ :: rest) f ds w := W_move D6
theorem Ag {a : Option Addr} (V : ev f x = .pointer a) (h : AO P all Z K rest (upd f d (.pointer a)) ds w) : AO P all Z K (⟨some d, .move x, ty, pos, af, none⟩ :: rest) f ds w := W_move D6
theorem AP {b : Bool} (V : ev f x = .bool b) (h : AO P all Z K rest (upd f d (.bool b)) ds w) : AO P all Z K (⟨some d, .move x, ty, pos, af, none⟩ :: rest) f ds w := W_move D6
theorem CK {s : ByteArray} (V : ev f x = .string s) (h : AO P all Z K rest (upd f d (.string s)) ds w) : AO P all Z K (⟨some d, .move x, ty, pos, af, none⟩ :: rest) f ds w := W_move D6
theorem M_tuple {c : Array Value} (V : ev f x = .tuple c) (h : AO P all Z K rest (upd f d (.tuple c)) ds w) : AO P all Z K (⟨some d, .move x, ty, pos, af, none⟩ :: rest) f ds w := W_move D6
theorem M_agg {c : Array Value} (V : ev f x = .agg c) (h : AO P all Z K rest (upd f d (.agg c)) ds w) : AO P all Z K (⟨some d, .move x, ty, pos, af, none⟩ :: rest) f ds w := W_move D6
theorem M_func {g : Go.Fn} {a b : Array Value} (V : ev f x = .func g a b) (h : AO P all Z K rest (upd f d (.func g a b)) ds w) : AO P all Z K (⟨some d, .move x, ty, pos, af, none⟩ :: rest) f ds w := W_move D6
theorem M_map {r : Option Nat} (V : ev f x = .map r) (h : AO P all Z K rest (upd f d (.map r)) ds w) : AO P all Z K (⟨some d, .move x, ty, pos, af, none⟩ :: rest) f ds w := W_move D6
theorem Ac (h : AO P all Z K (⟨some d, .move x, ty, pos, af, none⟩ :: rest) f ds w) : AO P all Z K (⟨some d, .assign x, ty, pos, af, none⟩ :: rest) f ds w := h
theorem A4 {c y : Operand} (T : ev f c = .bool true) (h : AO P all Z K (⟨some d, .move x, ty, pos, af, none⟩ :: rest) f ds w) : AO P all Z K (⟨some d, .pick c x y, ty, pos, af, none⟩ :: rest) f ds w :=
 W_pick_t T (by simpa [AO, A7, BU, execOp, putF] using h)
theorem Au {c y : Operand} (T : ev f c = .bool false) (h : AO P all Z K (⟨some d, .move x, ty, pos, af, none⟩ :: rest) f ds w) : AO P all Z K (⟨some d, .pick c y x, ty, pos, af, none⟩ :: rest) f ds w :=
 W_pick_f T (by simpa [AO, A7, BU, execOp, putF] using h)
end
end
end Go.Proofs.YtohodbnnhlddpaaGreatDoor
