/- TopGoalsGoOn, part 16 of 16: rules, lemmas, walks. Conditions: none. -/
import Derived.Test.YtohodbnnhlddpaaGreatDoorQZ15
import Derived.WalkKit
import Derived.ProofKit
import Derived.OpenShut
import Derived.JoinedCond
import Derived.ChangeStays
import Derived.ReadAgain
import Derived.Deep.Slices
import Derived.Test.YtohodbnnhlddpaaGreatDoorCards
import Derived.Test.YtohodbnnhlddpaaGreatDoorTie
import Derived.Deep.DeepWitnessRowRef
import Derived.Lib.LaidTab
import Derived.JoinedOf
import Derived.KernelRfl
namespace Go.Proofs.YtohodbnnhlddpaaGreatDoor
open Go.RowKit
set_option linter.unusedVariables false
theorem tick_mem {S : List Sgn} {d : List Dty} {x : Int} : (tickF S d x).length ≤ d.length ∧ ∀ y ∈ tickF S d x, ∃ z ∈ d, y.req = z.req ∧ y.first = z.first := by
 unfold tickF
 split
 ·exact ⟨by simp, fun y K => by cases K⟩
 ·refine ⟨by simp, fun y K => ?_⟩;obtain ⟨z, n, rfl⟩ := List.mem_map.1 K;exact ⟨z, n, rfl, rfl⟩
theorem ticks_mem {S : List Sgn} : ∀ (xs : List Int) (d : List Dty), (DF S d xs).length ≤ d.length ∧ ∀ y ∈ DF S d xs, ∃ z ∈ d, y.req = z.req ∧ y.first = z.first
 | [], d => ⟨Nat.le_refl _, fun y K => ⟨y, K, rfl, rfl⟩⟩
 | x :: xs, d => by
  obtain ⟨X, e⟩ := ticks_mem xs (tickF S d x);obtain ⟨R, w⟩ := tick_mem (S := S) (d := d) (x := x);refine ⟨Nat.le_trans X R, fun y K => ?_⟩;obtain ⟨z, n, a, b⟩ := e y K;obtain ⟨u, r, c, W⟩ := w z n;exact ⟨u, r, a.trans c, b.trans W⟩
theorem ticks_snoc (S : List Sgn) (x : Int) : ∀ (xs : List Int) (d : List Dty), DF S d (xs ++ [x]) = tickF S (DF S d xs) x
 | [], _ => rfl
 | y :: xs, d => ticks_snoc S x xs (tickF S d y)
set_option maxHeartbeats 4000000 in
theorem goalsGoOn_ok (w : World) (M : Option Addr) (d : Nat) (H : Option Addr) (B : Nat) (s : Spc) (R : Option Addr) (X : Nat) (xs : List Int) (c : LV) (E a : List Int) (o : SlAt sgnR AZ w (.slice M s.sigs.length d) s.sigs) (hr : SlAt reqR AZ w (.slice H s.reqs.length B) s.reqs)
  (V : InS w (.slice R xs.length X) xs) (P : LasG w c E a) (hP : GK w) (D : GF w) (g : KY w) (j : 10 ≤ w.heap.size) :
  Fn Zp 4 [.agg #[.slice M s.sigs.length d, .slice H s.reqs.length B], .slice R xs.length X, .agg c.toArray] w fun u w' => u = .bool true ∧ Ext w w' := by
 have hl0 := P;obtain ⟨sta, g0, f9, f8, rfl, f4, e7⟩ := P;have h8 := V.len;have h5 := f4.len;have hll := e7.len;refine AG Tryz.func4 rfl Tryz.ntmps4 (go ?_);refine Aj (L := [.slice M s.sigs.length d, .slice H s.reqs.length B]) rfl (fun w1 n1 => ?_);refine Aj (L := [.slice sta E.length g0, .slice f9 a.length f8]) rfl (fun w2 n2 => ?_);have F := n1.E.trans n2.E;have B1 := n1.D.E n2.E O;have B2 := n2.D;refine go ?_;refine AC (owed_ok w2 (hP.ext F) (D.ext F) (g.E F O) (Nat.le_trans j F.size)) rfl ?_;rintro _ w3 ⟨rfl, k3⟩;have e3 := F.trans k3;have C1 := B1.E k3 O;have C2 := B2.E k3 O;refine go ?_;refine AW (.read 0 (.alt 1 (rd 2 3 (.alt 5 (rd 6 10 (.alt 16 (rd 17 11 (.read 29 (.read 30 (.alt 28 (.alt 31 (.alt 32 (.read 33 (.read 34 .done)) .stop) .stop) .stop)))) .stop)) .stop)) .stop)) Al Dk (fun K N ed => ⟨Ext K, ?_, ?_⟩)
 ·exact EZ
 have a0 := e3.trans N;have D1 := C1.E N O;have D2 := C2.E N O;refine go ?_;refine D_E rfl ?_;refine AC (few_ok K M d H B s (o.ext a0) (hr.ext a0)) rfl ?_;rintro _ v1 ⟨b, rfl, p, hfew⟩;refine wNl p ?_;cases b with
 | false =>
  refine go ?_;refine D_E rfl ?_;refine Ax rfl ?_;refine wNl p ?_;refine go ?_;refine D_E rfl ?_;refine Ax rfl ?_;refine wNl p ?_;refine go ?_;refine D_E rfl ?_;refine Ax rfl ?_;refine wNl p ?_;refine go ?_;refine D_E rfl ?_;refine Ax rfl ?_;refine wNl p ?_;refine go ?_;refine D_E rfl ?_;refine Ax rfl ?_;refine wNl p ?_;refine go ?_;exact AA rfl ⟨rfl, a0.trans p⟩
 | true =>
 obtain ⟨g8, b7⟩ := hfew rfl;have q1 := a0.trans p;refine go ?_;refine D_E rfl ?_;refine AS rfl (AC (check_ok v1 M d H B s (o.ext q1) (hr.ext q1) (D.ext q1) (g.E q1 O) (Nat.le_trans j q1.size)) rfl ?_);rintro v v2 ⟨j2, n, fs, ho, hn16, g9, f0, -⟩;have q2 := q1.trans j2;have l := p.trans j2;obtain ⟨va, vc, rfl, -⟩ : Sl AZ v2 v n fs := AV ho fun _ _ => trivial;refine wNl l ?_;by_cases hn0 : 0 < n
 ·exact Ei
 have I : chkB s = true := f0.1 U;have A : A6 s.sigs = true := by simp [chkB] at I; exact I.1.1
 have h3 : s.reqs.length ≤ 16 := by simp [chkB] at I; exact I.1.2
 by_cases h7 : 10 < xs.length
 ·exact Ei
 refine go ?_;refine D_E rfl ?_;refine AS rfl (AC (short_ok v2 _ E a (hl0.ext q2)) rfl ?_);rintro _ v3 ⟨b3, rfl, j3⟩;have q3 := q2.trans j3;have Q := l.trans j3;refine wNl Q ?_;cases b3 with
 | false =>
  exact Et
 | true =>
 by_cases h4 : 40 < E.length
 ·exact Et
 refine go ?_;refine D_E rfl ?_;refine AS rfl (AC (rletters_ok v3 _ s.sigs (o.ext q3) A) rfl ?_);rintro _ v4 ⟨rfl, j4⟩;have q4 := q3.trans j4;have r4 := Q.trans j4;refine wNl r4 ?_;refine go ?_;refine D_E rfl ?_;refine AS rfl (AC (word_ok v4 R X xs _ E a (V.ext q4) (hl0.ext q4) U U) rfl ?_);rintro _ v5 ⟨c5, rfl, j5, e5⟩;have q5 := q4.trans j5;have r5 := r4.trans j5;refine wNl r5 ?_;refine go ?_;refine D_E rfl ?_;refine AS rfl (AC (valid2_ok v5 _ c5 (xs ++ E) a e5) rfl ?_);rintro _ v6 ⟨b6, rfl, j6, d1⟩;have G := q5.trans j6;have r6 := r5.trans j6;refine wNl r6 ?_;cases b6 with
 | false =>
  refine go ?_;exact AA rfl ⟨rfl, G⟩
 | true =>
 obtain ⟨g1, g2, g3, g4, g5⟩ := d1 rfl;have E1 := D1.E r6 O;have E2 := D2.E r6 O;refine go ?_;refine AC (goal_ok v6 M d H B s (o.ext G) (hr.ext G) (D.ext G) (g.E G O) (Nat.le_trans j G.size)) rfl ?_;rintro _ v7 ⟨cg, eg, rfl, j7, fg, e2⟩;obtain ⟨csg, rfl, d5, f1⟩ := fg.cells;obtain ⟨s0, s1, s2, s3, s4, rfl⟩ := AX d5;refine go ?_;refine An (cs := [s0, s1, s2, s3, s4]) rfl rfl Dn f1 (fun v8 n8 => ?_);have j8 := j7.trans n8.E;have q8 := G.trans j8;have F1 := E1.E j8 O;have F2 := E2.E j8 O;have B8 := n8.D;have c6 : FAt AZ v8 (.agg [s0, s1, s2, s3, s4].toArray) (C6 s) := (fg.ext n8.E).mono fun _ _ => trivial;obtain ⟨cG, d2⟩ : ∃ cG, cG = v7.heap.size := ⟨_, rfl⟩;rw [← d2] at B8 ⊢;refine go ?_;refine AC (mstart_ok v8 M d H B s 3 U (o.ext q8) (hr.ext q8) (fun r a5 => by have := b7 r a5; omega) (D.ext q8) (g.E q8 O) (Nat.le_trans j q8.size)) rfl ?_;rintro _ v9 ⟨dv, e9, rfl, j9, he9, d9⟩;obtain rfl := he9.2 I;have hD9 := d9 I;have q9 := q8.trans j9;have G1 := F1.E j9 O;have G2 := F2.E j9 O;have B9 := B8.E j9 O;have c7 := c6.ext j9;obtain ⟨da, dc, rfl, g7⟩ := hD9.len;have h6 : (CW s 3).length = s.reqs.length := by simp [CW]
 have f5 : ∀ y ∈ CW s 3, szF y.req.formula ≤ 1000000 ∧ szF y.first ≤ 1000000 := fun y hy => by
  obtain ⟨r, a5, rfl⟩ := List.mem_map.1 hy;refine ⟨by have := b7 r a5; show szF r.formula ≤ _; omega, ?_⟩;show szF (BV (CQ r.formula).1) ≤ _;by_cases h0 : (BV (CQ r.formula).1).op = 0
  ·unfold BV at h0 ⊢;by_cases P : BD (CQ r.formula).1 = true
   ·rw [if_pos P];have := (BG (loose_canon P)).1;omega
   ·rw [if_neg P]; decide
  ·have := can_sz h0; omega
 refine go ?_
 refine Ah (α := Nat × Value) (fun u => [(1, .slice R xs.length X), (3, pt w.heap.size), (5, pt w1.heap.size), (7, .bool true), (8, pt cG), (9, iV eg), (10, u.2), (12, iV ((CW s 3).length : Int)), (13, iV (u.1 : Int))])
  (fun u W => u.1 ≤ xs.length ∧ Ext v9 W ∧ SlAt dtyR AZ W u.2 (DF s.sigs (CW s 3) (xs.take u.1))) (fun u => xs.length - u.1) (0, .slice da (CW s 3).length dc) ag ⟨by omega, Ext.refl _, hD9⟩ ?_
 rintro ⟨k, dv⟩ W fr ⟨hk, T, C⟩;simp only at hk T C;have qW := q9.trans T;have H1 := G1.E T O;have H2 := G2.E T O;obtain ⟨ua, uc, rfl, -⟩ := C.len;obtain ⟨b9, a9⟩ := ticks_mem (S := s.sigs) (xs.take k) (CW s 3);refine go ?_;by_cases e8 : k < xs.length
 ·obtain ⟨x, c0⟩ := gl e8;obtain ⟨bx, ox, rfl, d8⟩ := InS.at (V.ext qW) c0;refine go ?_;refine AW (rd 0 7 (.alt 7 (.read 8 .done) .stop)) Al Dk (fun K N ed => ⟨Ext K, ?_, ?_⟩)
  ·exact EZ
  have I1 := H1.E N O;have c1x := N.cell d8 O;have t := qW.trans N;refine go ?_;refine D_E rfl ?_
  refine AC (mtick_ok K M d s.sigs ua uc _ x (o.ext t) (C.ext N) U (fun y hy => by
   obtain ⟨z, hz, e1, F⟩ := a9 y hy;rw [e1, F]; exact f5 z hz) (D.ext t) (g.E t O) (Nat.le_trans j t.size)) rfl ?_
  rintro u10 h9 ⟨c1, d0⟩;refine wNl c1 ?_;refine go ?_;refine ⟨(k + 1, u10), ⟨rfl, ag, ⟨by simp only; omega, (T.trans N).trans c1, ?_⟩⟩, by simp only; omega⟩;simp only;have f6 : xs.take (k + 1) = xs.take k ++ [x] := by rw [List.take_add_one, c0]; rfl
  rw [f6, ticks_snoc];exact d0
 ·obtain rfl : k = xs.length := by omega
  rw [List.take_length] at C b9 a9 ⊢;have c2 := B9.E T O;have c8 := c7.ext T;obtain ⟨f, hdE⟩ : ∃ f, f = DF s.sigs (CW s 3) xs := ⟨_, rfl⟩;rw [← hdE] at C b9 a9 ⊢;by_cases e0 : eg = 0;rotate_left
  ·refine go ?_;exact AA rfl ⟨rfl, qW⟩
  have b8 := e2.1 e0;by_cases e6 : f.length < (CW s 3).length
  ·refine go ?_;exact AA rfl ⟨rfl, qW⟩
  obtain ⟨gk, -, -⟩ := goal_lk b8;refine go ?_;refine AW (rd 0 5 (.alt 5 (.alt 6 (.read 7 .done) .stop) .stop)) Al Dk (fun K N ed => ⟨Ext K, ?_, ?_⟩)
  ·exact EZ
  have I1 := H1.E N O;have I2 := H2.E N O;have I8 := c2.E N O;have b1 := c8.ext N;have t := qW.trans N;refine go ?_;refine D_E rfl ?_;refine AC (word_ok K R X xs _ E a (V.ext t) (hl0.ext t) U U) rfl ?_;rintro _ u1 ⟨c4, rfl, i1, e4⟩;refine wNl i1 ?_;have t1 := t.trans i1;refine D_E rfl ?_;refine AC (wholds_ok u1 M d s.sigs _ (C6 s) c4 (xs ++ E) a (o.ext t1) A (b1.ext i1) gk e4 g1 g2 g3 g4 g5 (D.ext t1) (g.E t1 O) (Nat.le_trans j t1.size)) rfl ?_;rintro _ u2 ⟨rfl, i2⟩;refine wNl (i1.trans i2) ?_;have t2 := t1.trans i2;have m := i1.trans i2;have J1 := I1.E m O;have J2 := I2.E m O;have J8 := I8.E m O;have f7 := N.trans m;have fg2 := b1.ext m
  have b4 : ∀ i z, xs[i]? = some z → wdG s.sigs ((xs ++ E) ++ a) (xs ++ E).length a.length i = vlS s.sigs z := by
   rw [List.append_assoc, List.length_append];exact word_at s.sigs xs (E ++ a) E.length a.length
  have b5 : dropW xs.length (wdG s.sigs ((xs ++ E) ++ a) (xs ++ E).length a.length) = wdG s.sigs (E ++ a) E.length a.length := by
   rw [List.append_assoc, List.length_append];exact word_drop s.sigs xs (E ++ a) E.length a.length
  have p1 : (C0 f).op ≠ 0 → LkS s.sigs (C0 f) ∧ tv (sem (wdG s.sigs (E ++ a) E.length a.length) (C0 f) 0) = tv (sem (wdG s.sigs ((xs ++ E) ++ a) (xs ++ E).length a.length) (C6 s) 0) := fun h => by
   rw [hdE] at h e6 ⊢;obtain ⟨h1, h2⟩ := goon_sem b8 U b4 h;rw [b5] at h2;exact ⟨h1, CO h2⟩
  have p2 : (Db s.sigs (C6 s) xs).op ≠ 0 → LkS s.sigs (Db s.sigs (C6 s) xs) ∧ tv (sem (wdG s.sigs (E ++ a) E.length a.length) (Db s.sigs (C6 s) xs) 0) = tv (sem (wdG s.sigs ((xs ++ E) ++ a) (xs ++ E).length a.length) (C6 s) 0) := fun h => by
   obtain ⟨h1, h2⟩ := rungo_sem xs h b4;rw [b5] at h2;exact ⟨h1, CO h2⟩
  generalize tv (sem (wdG s.sigs ((xs ++ E) ++ a) (xs ++ E).length a.length) (C6 s) 0) = bw at p1 p2 ⊢;have a7 : ∀ x ∈ E, 0 ≤ x ∧ x < CN s.sigs := fun x h => g4 x (List.mem_append_right _ h);have a8 : E.length ≤ 60 := by omega
  refine go ?_;refine AC (mgoal_ok u2 ua uc f (C.ext f7) U (D.ext t2) (g.E t2 O) (Nat.le_trans j t2.size)) rfl ?_;rintro _ u3 ⟨i3, fn⟩;obtain ⟨csn, rfl, d6, f2⟩ := fn.cells;obtain ⟨m0, m1, m2, m3, m4, rfl⟩ := AX d6;obtain rfl := fn.op0;refine An (cs := [iV (C0 f).op, m1, m2, m3, m4]) rfl rfl Dn f2 (fun u4 n4 => ?_);have Z := i3.trans n4.E;have t4 := t2.trans Z;have K1 := J1.E Z O;have K2 := J2.E Z O;have K8 := J8.E Z O;have K4 := n4.D;have c9 : FAt AZ u4 (.agg [iV (C0 f).op, m1, m2, m3, m4].toArray) (C0 f) := (fn.ext n4.E).mono fun _ _ => trivial;obtain ⟨cN, d3⟩ : ∃ cN, cN = u3.heap.size := ⟨_, rfl⟩;rw [← d3] at K4 ⊢;refine go ?_;refine AC (Run_ok u4 M d s.sigs _ (C6 s) R X xs (o.ext t4) (fg2.ext Z) (D.ext t4) (g.E t4 O) (Nat.le_trans j t4.size) (V.ext t4)) rfl ?_;rintro _ u5 ⟨i5, a2⟩;obtain ⟨g6, rfl, d7, f3⟩ := a2.cells;obtain ⟨o0, o1, o2, o3, o4, rfl⟩ := AX d7;obtain rfl := a2.op0;refine An (cs := [iV (Db s.sigs (C6 s) xs).op, o1, o2, o3, o4]) rfl rfl Dn f3 (fun u6 n6 => ?_);have i6 := i5.trans n6.E;have e := t4.trans i6;have L1 := K1.E i6 O;have L2 := K2.E i6 O;have L4 := K4.E i6 O;have L6 := n6.D;have b2 := c9.ext i6;have a3 : FAt AZ u6 (.agg [iV (Db s.sigs (C6 s) xs).op, o1, o2, o3, o4].toArray) (Db s.sigs (C6 s) xs) := (a2.ext n6.E).mono fun _ _ => trivial;obtain ⟨cR, d4⟩ : ∃ cR, cR = u5.heap.size := ⟨_, rfl⟩;rw [← d4] at L6 ⊢;have a4 := hl0.ext e;generalize C0 f = nowF at p1 L4 b2 ⊢;generalize Db s.sigs (C6 s) xs = resF at p2 L6 a3 ⊢;by_cases hn1 : nowF.op = 0
  ·by_cases a6 : resF.op = 0
   ·refine go ?_;exact AA rfl ⟨rfl, e⟩
   ·obtain ⟨r1, b0⟩ := p2 a6;refine go ?_;refine AC (wholds_ok u6 M d s.sigs _ resF _ E a (o.ext e) A a3 r1 a4 a8 g2 g3 a7 g5 (D.ext e) (g.E e O) (Nat.le_trans j e.size)) rfl ?_;rintro _ u7 ⟨rfl, q⟩;rw [b0];cases bw <;>
    ·refine go ?_;exact AA rfl ⟨rfl, e.trans q⟩
  ·obtain ⟨a1, c3⟩ := p1 hn1;refine go ?_;refine AC (wholds_ok u6 M d s.sigs _ nowF _ E a (o.ext e) A b2 a1 a4 a8 g2 g3 a7 g5 (D.ext e) (g.E e O) (Nat.le_trans j e.size)) rfl ?_;rintro _ u7 ⟨rfl, q⟩;rw [c3];have t7 := e.trans q;have M1 := L1.E q O;have M2 := L2.E q O;have M6 := L6.E q O;by_cases a6 : resF.op = 0
   ·cases bw <;>
    ·refine go ?_;exact AA rfl ⟨rfl, t7⟩
   ·obtain ⟨r1, b0⟩ := p2 a6;cases bw <;>
    ·refine go ?_;refine AC (wholds_ok u7 M d s.sigs _ resF _ E a (o.ext t7) A (a3.ext q) r1 (a4.ext q) a8 g2 g3 a7 g5 (D.ext t7) (g.E t7 O) (Nat.le_trans j t7.size)) rfl ?_;rintro _ u8 ⟨rfl, i8⟩;rw [b0];refine go ?_;exact AA rfl ⟨rfl, t7.trans i8⟩
section
open Go.ChangeAt Go.ChangeShapes Go.WideShapes
open Go.ChangeMaps (open_string)
section
variable {H : Type} {enc : TypeId × Value → H} {P : Program} {W W' : World}
theorem sameAt_ext (F : Ext W W') {p : MemPlace} (v : p.block < W.heap.size) : W.sameAt W' p := by
 cases p with
 | cell b off => exact World.cell?_of_block (w := W) (a := ⟨b, off, none⟩) (F.block b v O)
 | map b => exact F.block b v O
theorem trodAll_ext (K : Kids P (· < P.types.size)) (a : ∀ t e, t < P.types.size → P.underlying t = some (.slice e) → 0 < P.cellsOf e) (F : Ext W W') {X : Nat → Bool} :
  ∀ {m : List TypeId} {vs : LV} {ds : List (DataW H)} {ps : List MemPlace}, (∀ t ∈ m, t < P.types.size) → DataW.TrodAll enc P W 0 (fun _ => true) true m vs ds ps →
   (∀ p ∈ ps, p.block < W.heap.size) → (∀ p ∈ ps, X p.block = true) → DataW.TrodAll enc P W' 0 X true m vs ds ps
 | [], [], [], _, _, h, _, _ => h
 | _ :: _, _ :: _, _ :: _, _, hT, ⟨p, q, ⟨n, h1⟩, h2, e⟩, hl, hs => by
  subst e;refine ⟨p, q, ⟨n, DataW.trod_stays K (fun S r => a _ _ S r) (fun h => by cases h) (hT _ O) h1 (fun x V => sameAt_ext F (hl x (List.mem_append_left _ V))) fun x V => hs x (List.mem_append_left _ V)⟩, ?_, rfl⟩;exact trodAll_ext K a F (fun t S => hT t (List.mem_cons_of_mem _ S)) h2 (fun x V => hl x (List.mem_append_right _ V)) fun x V => hs x (List.mem_append_right _ V)
theorem keptBut_ext (F : Ext W W') (t : MemPlace → Prop) : W.keptBut W' t := by
 refine ⟨F.os, F.output, fun i a => ?_⟩;rw [F.block i a O];exact (World.keptBut_refl W t).2.2 i a
theorem post_of_ext (K : Kids P (· < P.types.size)) (n : ∀ t e, t < P.types.size → P.underlying t = some (.slice e) → 0 < P.cellsOf e) {f : Func} {s : ChangeSpec} {b fresh r : Bool} {args : Array Value} {v : Value} {ds w : List (DataW H)} {L : List MemPlace} {c : TypeId}
  (j : ∀ t ∈ f.params.toList, t < P.types.size) (D : s.vars = []) (B : DataW.Whole enc P f.params.toList s.vars b W args.toList ds w L)
  (E : s.fn H (ds ++ w) = { results := [.lit (.bool true)], args := ds }) (g : f.resultTypes = #[c]) (i : P.underlying c = some .bool) (k : v = .bool true) (F : Ext W W') :
  s.post enc P f b fresh r false W args v W' := by
 subst k;have y : ∀ p ∈ L, p.block < W.heap.size := B.lt;obtain ⟨p, q, G, a, rfl, I, l⟩ := id B
 have d : w = [] ∧ q = [] := by
  rw [D] at a;cases w with
  | nil => exact ⟨rfl, a⟩
  | cons _ _ => exact a.elim
 obtain ⟨rfl, rfl⟩ := d;refine ⟨ds, [], _, [], p, [], B, ?_, ?_, ?_, keptBut_ext F _, (fun h => by cases h)⟩
 ·rw [E, g];exact trodAll_cons_mk (shut_bool i true) trodAll_mk0
 ·rw [E];exact trodAll_ext K n F j G (fun x V => y x (List.mem_append_left _ V)) fun x V => by simpa using y x (List.mem_append_left _ V)
 ·rw [E, D]; exact rfl
end
theorem kids : Kids Zp (· < Tryz.prog.types.size) := kids_rows Dk Dk
theorem full : ∀ t e, t < Tryz.prog.types.size → Tryz.prog.underlying t = some (.slice e) → 0 < Tryz.prog.cellsOf e := slices_full_of Zp Dk
theorem own : ownKnob Tryz.prog.godebug = none := by kernel_rfl
section
variable {H : Type} {enc : TypeId × Value → H} {P : Program} {W : World} {sp : Nat → Bool} {hd : Bool}
theorem spot_none {a : Addr} {v : Value} (h : W.cell? a = some v) : a.spot = none := by
 cases ha : a.spot with
 | none => rfl
 | some _ =>
  unfold World.cell? at h
  split at h
  ·simp [ha] at h
  ·cases h
theorem val_one {r : Reach} {t e : TypeId} {v u : Value} {b : Nat} (S : P.underlying t = some (.slice e)) (A : Value.okWide P W r b t v) (h : v.cells.toList = [u]) : v = u := by
 obtain ⟨a, l, c, rfl⟩ := okWide_slice S A;simpa [Value.cells] using h
end
end
section
open Go.ChangeAt Go.ChangeShapes Go.WideShapes
theorem lenF {cs : LV} (h : cs.length = 5) : ∃ X G E Z T, cs = [X, G, E, Z, T] := by
 match cs, h with
 | [a, b, c, d, e], _ => exact ⟨a, b, c, d, e, rfl⟩
theorem lenR {cs : LV} (h : cs.length = 8) : ∃ X G E d, cs = X :: G :: E :: d ∧ d.length = 5 := by
 match cs, h with
 | a :: b :: c :: d, h => exact ⟨a, b, c, d, rfl, by simpa using h⟩
theorem lenG {cs : LV} (h : cs.length = 3) : ∃ X G E, cs = [X, G, E] := by
 match cs, h with
 | [a, b, c], _ => exact ⟨a, b, c, rfl⟩
theorem lenS {cs : LV} (h : cs.length = 2) : ∃ X G, cs = [X, G] := by
 match cs, h with
 | [a, b], _ => exact ⟨a, b, rfl⟩
theorem cell_eq {w : World} {b i j : Nat} (h : i = j) : w.cell? ⟨b, i, none⟩ = w.cell? ⟨b, j, none⟩ := by rw [h]
section
variable {H : Type} {enc : TypeId × Value → H} {W : World} {sp : Nat → Bool} {hd : Bool}
theorem open_rows {α : Type} [Inhabited α] {t e : TypeId} {c E : Nat} {cs : LV} {x : DataW H × List MemPlace} (Q : LV → α → Prop) (ht : Tryz.prog.underlying t = some (.slice e)) (V : Tryz.prog.cellsOf e = c) (m : 0 < c)
  (T : ∀ (n : Nat) (cs : LV) (x : DataW H × List MemPlace), n < E → DataW.trod enc Zp W 0 sp hd n e cs = some x → ∃ a, Q cs a) (h : DataW.trod enc Zp W 0 sp hd E t cs = some x) :
  ∃ (a : Option Addr) (k : Nat) (L : List (LV)) (l : List α), cs = [.slice a l.length k] ∧ Sl AZ W (.slice a l.length k) l.length L.flatten ∧ L.length = l.length ∧ (∀ d ∈ L, d.length = c) ∧ ∀ (i : Nat) (d : LV) (a : α), L[i]? = some d → l[i]? = some a → Q d a := by
 rcases DataW.trod_slice ht h with ⟨rfl, _⟩ | ⟨a, g, o, a3, a7, n, rfl, rfl, _, _, hl, A, a6, M, _, _⟩
 ·exact ⟨none, 0, [], [], rfl, ⟨none, 0, rfl, Nat.le_refl _, by omega, fun _ => rfl, .inl rfl⟩, rfl, (fun d C => by cases C), fun i d a h => by simp at h⟩
 ·rw [V] at M
  obtain ⟨D, f⟩ := Deep.choose_lt (α := LV × α) (n := g) (p := fun i q => W.cells? 0 (a.add (i * c)) c = some q.1 ∧ Q q.1 q.2) (fun i F => by
   have X := M i F;rw [List.getElem?_eq_getElem U] at X;obtain ⟨w, j, R⟩ := Option.bind_eq_some_iff.1 X;obtain ⟨b, S⟩ := T n w _ (Nat.lt_succ_self n) R;exact ⟨(w, b), j, S⟩)
  have z : ∀ i, i < g → (D i).1.length = c := fun i F => (World.cells?_some (f i F).1).2.1
  have B : ∀ d ∈ ((List.range g).map fun i => (D i).1), d.length = c := by
   intro d C;obtain ⟨i, F, rfl⟩ := List.mem_map.1 C;exact z i (List.mem_range.1 F)
  have a0 : ((List.range g).map fun i => (D i).2).length = g := by simp
  refine ⟨some a, o, (List.range g).map fun i => (D i).1, (List.range g).map fun i => (D i).2, by rw [a0], ⟨some a, o, rfl, by omega, by simp only [maxLen] at A; omega, (fun h => by cases h), ?_⟩, by simp, B, ?_⟩
  ·by_cases hz : g = 0
   ·left; omega
   ·right;have G := (World.cells?_some (f 0 U).1).2.2 0 m
    have I : a.spot = none := by
     have a4 := z 0 U;rw [List.getElem?_eq_getElem U] at G;have := spot_none G;simpa [Addr.add] using this
    obtain ⟨b, a2, s⟩ := a;simp only at I;subst I;refine ⟨b, a2, rfl, trivial, fun i u K => ?_⟩;have y := (List.getElem?_eq_some_iff.1 K).1;rw [CC c _ B] at y;simp only [List.length_map, List.length_range] at y;have P : i / c < g := (Nat.div_lt_iff_lt_mul m).2 y;have Z : i % c < c := Nat.mod_lt _ m
    have a1 : ((List.range g).map fun i => (D i).1)[i / c]? = some (D (i / c)).1 := by
     rw [List.getElem?_map, List.getElem?_range P]; rfl
    have a5 := z _ P;have N : (D (i / c)).1[i % c]? = some (D (i / c)).1[i % c] := List.getElem?_eq_getElem U;have X := CH c _ _ _ _ _ B a1 N;have F : i / c * c + i % c = i := by rw [Nat.mul_comm]; exact Nat.div_add_mod i c
    rw [F] at X;have j := (World.cells?_some (f _ P).1).2.2 (i % c) Z;rw [Addr.add_lit, Addr.add_lit, N] at j;have e : u = (D (i / c)).1[i % c] := Option.some.inj (K.symm.trans X);rw [e, ← j];exact cell_eq U
  ·intro i d b C S;obtain ⟨X, rfl⟩ := List.getElem?_eq_some_iff.1 C;obtain ⟨_, rfl⟩ := List.getElem?_eq_some_iff.1 S;simp at X;simp only [List.getElem_map, List.getElem_range];exact (f i U).2
theorem cellF : Tryz.prog.cellsOf 36 = 5 := by kernel_rfl
theorem cellR : Tryz.prog.cellsOf 38 = 8 := by kernel_rfl
theorem cellS : Tryz.prog.cellsOf 54 = 2 := by kernel_rfl
theorem cellSg : Tryz.prog.cellsOf 125 = 3 := by kernel_rfl
theorem cellI : Tryz.prog.cellsOf 3 = 1 := by kernel_rfl
theorem cellB : Tryz.prog.cellsOf 4 = 1 := by kernel_rfl
theorem cellSt : Tryz.prog.cellsOf 9 = 1 := by kernel_rfl
theorem cellFs : Tryz.prog.cellsOf 34 = 1 := by kernel_rfl
theorem cellSgs : Tryz.prog.cellsOf 22 = 1 := by kernel_rfl
theorem cellRs : Tryz.prog.cellsOf 52 = 1 := by kernel_rfl
theorem strV_toList (s : ByteArray) : Value.string s = AI s.data.toList := by simp [AI]
theorem BM {β : Type} {xs : List β} {n i : Nat} (h : xs.length = n) (F : i < n) : ∃ y, xs[i]? = some y := ⟨_, List.getElem?_eq_getElem U⟩
theorem open_fml : ∀ (P : Nat) (cs : LV) (x : DataW H × List MemPlace), DataW.trod enc Zp W 0 sp hd P 36 cs = some x → ∃ f : Fml, fmlR.fits AZ W cs f := by
 intro P
 induction P using Nat.strongRecOn with
 | ind P ih =>
 intro cs x h;obtain ⟨e, n, rfl, _, w, a0, I⟩ := DataW.trod_struct Tryz.underlying36 h;rw [cellF] at w;obtain ⟨X, G, E, Z, T, rfl⟩ := lenF w;have j : e.length = 5 := a0;have q : DataW.trod enc Zp W 0 sp hd n 3 ((List.drop 0 [X, G, E, Z, T]).take (Tryz.prog.cellsOf 3)) = e[0]? := I 0 _ rfl;have M : DataW.trod enc Zp W 0 sp hd n 9 ((List.drop 1 [X, G, E, Z, T]).take (Tryz.prog.cellsOf 9)) = e[1]? := I 1 _ rfl;have t : DataW.trod enc Zp W 0 sp hd n 3 ((List.drop 2 [X, G, E, Z, T]).take (Tryz.prog.cellsOf 3)) = e[2]? := I 2 _ rfl;have Q : DataW.trod enc Zp W 0 sp hd n 3 ((List.drop 3 [X, G, E, Z, T]).take (Tryz.prog.cellsOf 3)) = e[3]? := I 3 _ rfl;have u : DataW.trod enc Zp W 0 sp hd n 34 ((List.drop 4 [X, G, E, Z, T]).take (Tryz.prog.cellsOf 34)) = e[4]? := I 4 _ rfl;rw [cellI] at q t Q;rw [cellSt] at M;rw [cellFs] at u;obtain ⟨y0, V⟩ := BM (i := 0) j U;obtain ⟨y1, g1⟩ := BM (i := 1) j U;obtain ⟨y2, p⟩ := BM (i := 2) j U;obtain ⟨y3, A⟩ := BM (i := 3) j U;obtain ⟨y4, g4⟩ := BM (i := 4) j U;obtain ⟨N, y, _, _⟩ := DataW.trod_int Tryz.underlying3 (q.trans V);obtain ⟨s, C, _, _⟩ := DataW.trod_string Tryz.underlying9 (M.trans g1);obtain ⟨v, K, _, _⟩ := DataW.trod_int Tryz.underlying3 (t.trans p);obtain ⟨b, z, _, _⟩ := DataW.trod_int Tryz.underlying3 (Q.trans A);have : Inhabited Fml := ⟨Ae⟩;obtain ⟨a, k, L, l, S, hS, hL, h5, hA⟩ := open_rows (fun d g => fmlR.fits AZ W d g) Tryz.underlying34 cellF U (fun m cs x hm hx => ih m U cs x hx) (u.trans g4);have B : X = iV N := by simpa using y
 have F : G = AI s.data.toList := by rw [← strV_toList]; simpa using C
 have R : E = iV v := by simpa using K
 have o : Z = iV b := by simpa using z
 have D : T = .slice a l.length k := by simpa using S
 subst B F R o D;exact ⟨⟨N, s.data.toList, v, b, l⟩, rfl, .mk N _ v b l _ L hS hL h5 fun i c g hc hg => (hA i c g hc hg).2⟩
theorem open_req {P : Nat} {cs : LV} {x : DataW H × List MemPlace} (h : DataW.trod enc Zp W 0 sp hd P 38 cs = some x) : ∃ r : Rqm, reqR.fits AZ W cs r := by
 obtain ⟨a, n, rfl, _, g, B, I⟩ := DataW.trod_struct Tryz.underlying38 h;rw [cellR] at g;obtain ⟨X, G, E, d, rfl, e⟩ := lenR g;have c : a.length = 4 := B;have q : DataW.trod enc Zp W 0 sp hd n 9 ((List.drop 0 (X :: G :: E :: d)).take (Tryz.prog.cellsOf 9)) = a[0]? := I 0 _ rfl;have M : DataW.trod enc Zp W 0 sp hd n 9 ((List.drop 1 (X :: G :: E :: d)).take (Tryz.prog.cellsOf 9)) = a[1]? := I 1 _ rfl;have T : DataW.trod enc Zp W 0 sp hd n 3 ((List.drop 2 (X :: G :: E :: d)).take (Tryz.prog.cellsOf 3)) = a[2]? := I 2 _ rfl;have Q : DataW.trod enc Zp W 0 sp hd n 36 ((List.drop 3 (X :: G :: E :: d)).take (Tryz.prog.cellsOf 36)) = a[3]? := I 3 _ rfl;rw [cellI] at T;rw [cellSt] at q M;rw [cellF] at Q;obtain ⟨F, N⟩ := BM (i := 0) c U;obtain ⟨C, y⟩ := BM (i := 1) c U;obtain ⟨K, p⟩ := BM (i := 2) c U;obtain ⟨D, A⟩ := BM (i := 3) c U;obtain ⟨s, j, _, _⟩ := DataW.trod_string Tryz.underlying9 (q.trans N);obtain ⟨t, o, _, _⟩ := DataW.trod_string Tryz.underlying9 (M.trans y);obtain ⟨k, w, _, _⟩ := DataW.trod_int Tryz.underlying3 (T.trans p);obtain ⟨f, l⟩ := open_fml _ _ _ (Q.trans A);have m : X = AI s.data.toList := by rw [← strV_toList]; simpa using j
 have u : G = AI t.data.toList := by rw [← strV_toList]; simpa using o
 have L : E = iV k := by simpa using w
 have z : (List.drop 3 (X :: G :: E :: d)).take 5 = d := by simp [← e]
 rw [z] at l;subst m u L;exact ⟨⟨s.data.toList, t.data.toList, k, f⟩, d, rfl, e, l.2⟩
theorem open_sgn {P : Nat} {cs : LV} {x : DataW H × List MemPlace} (h : DataW.trod enc Zp W 0 sp hd P 125 cs = some x) : ∃ r : Sgn, sgnR.fits AZ W cs r := by
 obtain ⟨a, n, rfl, _, e, o, I⟩ := DataW.trod_struct Tryz.underlying125 h;rw [cellSg] at e;obtain ⟨X, G, E, rfl⟩ := lenG e;have c : a.length = 3 := o;have q : DataW.trod enc Zp W 0 sp hd n 9 ((List.drop 0 [X, G, E]).take (Tryz.prog.cellsOf 9)) = a[0]? := I 0 _ rfl;have M : DataW.trod enc Zp W 0 sp hd n 4 ((List.drop 1 [X, G, E]).take (Tryz.prog.cellsOf 4)) = a[1]? := I 1 _ rfl;have T : DataW.trod enc Zp W 0 sp hd n 3 ((List.drop 2 [X, G, E]).take (Tryz.prog.cellsOf 3)) = a[2]? := I 2 _ rfl;rw [cellI] at T;rw [cellSt] at q;rw [cellB] at M;obtain ⟨F, N⟩ := BM (i := 0) c U;obtain ⟨u, m⟩ := BM (i := 1) c U;obtain ⟨K, p⟩ := BM (i := 2) c U;obtain ⟨s, f, _, _⟩ := DataW.trod_string Tryz.underlying9 (q.trans N);obtain ⟨t, d, _, _⟩ := DataW.trod_bool Tryz.underlying4 (M.trans m);obtain ⟨k, l, _, _⟩ := DataW.trod_int Tryz.underlying3 (T.trans p);have g : X = AI s.data.toList := by rw [← strV_toList]; simpa using f
 have j : G = .bool t := by simpa using d
 have L : E = iV k := by simpa using l
 subst g j L;exact ⟨⟨s.data.toList, t, k⟩, rfl⟩
theorem open_sgns {P : Nat} {cs : LV} {x : DataW H × List MemPlace} (h : DataW.trod enc Zp W 0 sp hd P 22 cs = some x) : ∃ (v : Value) (l : List Sgn), cs = [v] ∧ SlAt sgnR AZ W v l := by
 have : Inhabited Sgn := ⟨⟨[], false, 0⟩⟩;obtain ⟨a, k, L, l, e, c, D, _, G⟩ := open_rows (fun d g => sgnR.fits AZ W d g) Tryz.underlying22 cellSg U (fun m cs x _ V => open_sgn V) h;exact ⟨_, l, e, a, k, L, rfl, c, D, G⟩
theorem open_reqs {P : Nat} {cs : LV} {x : DataW H × List MemPlace} (h : DataW.trod enc Zp W 0 sp hd P 52 cs = some x) : ∃ (v : Value) (l : List Rqm), cs = [v] ∧ SlAt reqR AZ W v l := by
 have : Inhabited Rqm := ⟨⟨[], [], 0, Ae⟩⟩;obtain ⟨a, k, L, l, e, c, D, _, G⟩ := open_rows (fun d g => reqR.fits AZ W d g) Tryz.underlying52 cellR U (fun m cs x _ V => open_req V) h;exact ⟨_, l, e, a, k, L, rfl, c, D, G⟩
theorem open_spc {P : Nat} {cs : LV} {x : DataW H × List MemPlace} (h : DataW.trod enc Zp W 0 sp hd P 54 cs = some x) : ∃ s : Spc, spcR.fits AZ W cs s := by
 obtain ⟨c, n, rfl, _, e, t, I⟩ := DataW.trod_struct Tryz.underlying54 h;rw [cellS] at e;obtain ⟨X, G, rfl⟩ := lenS e;have f : c.length = 2 := t;have q : DataW.trod enc Zp W 0 sp hd n 22 ((List.drop 0 [X, G]).take (Tryz.prog.cellsOf 22)) = c[0]? := I 0 _ rfl;have M : DataW.trod enc Zp W 0 sp hd n 52 ((List.drop 1 [X, G]).take (Tryz.prog.cellsOf 52)) = c[1]? := I 1 _ rfl;rw [cellSgs] at q;rw [cellRs] at M;obtain ⟨F, N⟩ := BM (i := 0) f U;obtain ⟨u, m⟩ := BM (i := 1) f U;obtain ⟨D, a, k, o⟩ := open_sgns (q.trans N);obtain ⟨R, g, d, p⟩ := open_reqs (M.trans m);have j : X = D := by simpa using k
 have l : G = R := by simpa using d
 subst j l;exact ⟨⟨a, g⟩, X, G, rfl, o, p⟩
end
set_option maxRecDepth 100000 in
theorem val_struct {W : World} {r : Reach} {t : TypeId} {a : Array Field} {v : Value} {b : Nat} (S : Tryz.prog.underlying t = some (.struct a)) (A : Value.okWide Zp W r b t v) : v = .agg v.cells := by
 obtain ⟨c, rfl, _⟩ := okWide_struct S A;rfl
section
variable {H : Type} {enc : TypeId × Value → H} {W : World} {sp : Nat → Bool} {hd : Bool} {r : Reach} {b : Nat} {v : Value} {x : DataW H × List MemPlace}
set_option maxRecDepth 100000 in
theorem arg_spc (A : Value.okWide Zp W r b 54 v) (h : ∃ n, DataW.trod enc Zp W 0 sp hd n 54 v.cells.toList = some x) : ∃ (c : LV) (s : Spc), v = .agg c.toArray ∧ spcR.fits AZ W c s := by
 obtain ⟨n, h⟩ := h;obtain ⟨s, D⟩ := open_spc h;exact ⟨_, s, by rw [Array.toArray_toList]; exact val_struct Tryz.underlying54 A, D⟩
end
end
section
open Go.ChangeAt Go.ChangeShapes Go.WideShapes
section
variable {H : Type} {enc : TypeId × Value → H} {P : Program} {w : World} {base : Nat} {sp : Nat → Bool} {held : Bool}
theorem trod_arr {a : Nat} {t e : TypeId} {n c : Nat} {cs : LV} {ds : List (DataW H)} {p : List MemPlace} (f : P.underlying t = some (.array n e)) (G : P.cellsOf e = c) (s : P.cellsOf t = n * c)
  (h : DataW.trod enc P w base sp held a t cs = some (.agg ds, p)) : cs.length = n * c ∧ ∃ m, ∀ i, i < n → ∃ d q, ds[i]? = some d ∧ DataW.trod enc P w base sp held m e ((cs.drop (i * c)).take c) = some (d, q) := by
 cases a with
 | zero => simp [DataW.trod] at h
 | succ a =>
  simp only [DataW.trod, f, G, s] at h
  split at h
  ·rename_i hl;obtain ⟨g, A, V⟩ := Option.map_eq_some_iff.1 h
   have K : g.map (·.1) = ds := by
    have := congrArg Prod.fst V;simpa using this
   refine ⟨hl, a, fun i F => ?_⟩;obtain ⟨b, S, I⟩ := Lib.mapM_at A i i (by simp [F]);exact ⟨b.1, b.2, by rw [← K, List.getElem?_map, S]; rfl, I⟩
  ·cases h
end
def spanD (p : Nat × Nat × Nat) : DataW Unit := .agg [.lit (.int .u8 (p.1 : Int)), .lit (.int .u8 (p.2.1 : Int)), .lit (.int .i64 (p.2.2 : Int))]
theorem DU {cs out : LV} {c i r : Nat} {v : Value} (h : (cs.drop (i * c)).take c = out) (q : out[r]? = some v) : cs[i * c + r]? = some v := by
 subst h;rw [List.getElem?_take] at q
 split at q
 ·rwa [List.getElem?_drop] at q
 ·cases q
theorem len3 {cs : LV} (h : cs.length = 3) : ∃ X G E, cs = [X, G, E] := by
 match cs, h with
 | [a, b, c], _ => exact ⟨a, b, c, rfl⟩
theorem span_piece {w : World} {t : Nat} {cs : LV} {p : Nat × Nat × Nat} {q : List MemPlace} (h : DataW.trod (fun _ => ()) Zp w 0 (fun _ => true) false t 248 cs = some (spanD p, q)) : cs = spanC1 p := by
 have z : Tryz.prog.cellsOf 248 = 3 := by kernel_rfl
 have y : Tryz.prog.cellsOf 5 = 1 := by kernel_rfl
 have F : Tryz.prog.cellsOf 3 = 1 := by kernel_rfl
 obtain ⟨i, n, _, V, o, B, I⟩ := DataW.trod_struct Tryz.underlying248 h;rw [z] at o;obtain ⟨X, G, E, rfl⟩ := len3 o;have f : DataW.trod (fun _ => ()) Zp w 0 (fun _ => true) false n 5 ((List.drop 0 [X, G, E]).take (Tryz.prog.cellsOf 5)) = i[0]? := I 0 _ rfl;have M : DataW.trod (fun _ => ()) Zp w 0 (fun _ => true) false n 5 ((List.drop 1 [X, G, E]).take (Tryz.prog.cellsOf 5)) = i[1]? := I 1 _ rfl;have T : DataW.trod (fun _ => ()) Zp w 0 (fun _ => true) false n 3 ((List.drop 2 [X, G, E]).take (Tryz.prog.cellsOf 3)) = i[2]? := I 2 _ rfl;have D : i.length = 3 := B;rw [y] at f M;rw [F] at T;have N : i[0]? = some i[0] := List.getElem?_eq_getElem U;have g : i[1]? = some i[1] := List.getElem?_eq_getElem U;have j : i[2]? = some i[2] := List.getElem?_eq_getElem U;obtain ⟨a, l, m, _⟩ := DataW.trod_int Tryz.underlying5 (f.trans N);obtain ⟨b, S, u, _⟩ := DataW.trod_int Tryz.underlying5 (M.trans g);obtain ⟨c, s, A, _⟩ := DataW.trod_int Tryz.underlying3 (T.trans j)
 have C : i.map (·.1) = [.lit (.int .u8 (p.1 : Int)), .lit (.int .u8 (p.2.1 : Int)), .lit (.int .i64 (p.2.2 : Int))] := by
  have := congrArg Prod.fst V;simpa [spanD] using this.symm
 have k := congrArg (·[0]?) C;have d := congrArg (·[1]?) C;have e := congrArg (·[2]?) C;simp [N, m] at k;simp [g, u] at d;simp [j, A] at e;simp at l S s;rw [l, S, s, k, d, e];try rfl
theorem sym_piece {w : World} {a : Nat} {cs : LV} {l : LU} {q : List MemPlace} (h : DataW.trod (fun _ => ()) Zp w 0 (fun _ => true) false a 9 cs = some (.lit (.string l), q)) : cs = [AI l] := by
 obtain ⟨s, rfl, V, _⟩ := DataW.trod_string Tryz.underlying9 h;have := congrArg Prod.fst V;simp at this;rw [this]
theorem int_at {w : World} {c i : Nat} {cs : LV} {xs : List (DataW Unit × List MemPlace)} {ds : List (DataW Unit)} {z : Int} (I : DataW.trod (fun _ => ()) Zp w 0 (fun _ => true) false c 3 ((cs.drop i).take 1) = xs[i]?) (C : xs.map (·.1) = ds) (F : ds[i]? = some (.lit (.int .i64 z))) : cs[i]? = some (iV z) := by
 rw [← C, List.getElem?_map] at F;obtain ⟨x, V, a⟩ := Option.map_eq_some_iff.1 F;obtain ⟨n, G, rfl, _⟩ := DataW.trod_int Tryz.underlying3 (I.trans V);simp at a;subst a;have := congrArg (·[0]?) G;simpa [List.getElem?_take, List.getElem?_drop] using this
theorem bool_at {w : World} {c i : Nat} {cs : LV} {xs : List (DataW Unit × List MemPlace)} {ds : List (DataW Unit)} {z : Bool} (I : DataW.trod (fun _ => ()) Zp w 0 (fun _ => true) false c 4 ((cs.drop i).take 1) = xs[i]?) (C : xs.map (·.1) = ds) (F : ds[i]? = some (.lit (.bool z))) : cs[i]? = some (.bool z) := by
 rw [← C, List.getElem?_map] at F;obtain ⟨x, V, a⟩ := Option.map_eq_some_iff.1 F;obtain ⟨n, G, rfl⟩ := DataW.trod_bool Tryz.underlying4 (I.trans V);simp at a;subst a;have := congrArg (·[0]?) G;simpa [List.getElem?_take, List.getElem?_drop] using this
def formD (x : Form) : DataW Unit := .agg [.lit (.int .i64 x.least), .lit (.int .i64 x.most), .lit (.int .i64 x.val), .lit (.int .i64 x.bound), .lit (.bool x.named), .lit (.bool x.past), .lit (.bool x.future), .lit (.bool x.loose)]
theorem form_piece {w : World} {f : Nat} {cs : LV} {p : Form} {q : List MemPlace} (h : DataW.trod (fun _ => ()) Zp w 0 (fun _ => true) false f 190 cs = some (formD p, q)) : cs = Bl p := by
 have g : Tryz.prog.cellsOf 190 = 8 := by kernel_rfl
 have y : Tryz.prog.cellsOf 4 = 1 := by kernel_rfl
 have F : Tryz.prog.cellsOf 3 = 1 := by kernel_rfl
 obtain ⟨a, n, _, V, o, j, I⟩ := DataW.trod_struct Tryz.underlying190 h;rw [g] at o
 have C : a.map (·.1) = [.lit (.int .i64 p.least), .lit (.int .i64 p.most), .lit (.int .i64 p.val), .lit (.int .i64 p.bound), .lit (.bool p.named), .lit (.bool p.past), .lit (.bool p.future), .lit (.bool p.loose)] := by
  have := congrArg Prod.fst V;simpa [formD] using this.symm
 have c : DataW.trod (fun _ => ()) Zp w 0 (fun _ => true) false n 3 ((cs.drop 0).take (Tryz.prog.cellsOf 3)) = a[0]? := I 0 _ rfl;have M : DataW.trod (fun _ => ()) Zp w 0 (fun _ => true) false n 3 ((cs.drop 1).take (Tryz.prog.cellsOf 3)) = a[1]? := I 1 _ rfl;have T : DataW.trod (fun _ => ()) Zp w 0 (fun _ => true) false n 3 ((cs.drop 2).take (Tryz.prog.cellsOf 3)) = a[2]? := I 2 _ rfl;have Q : DataW.trod (fun _ => ()) Zp w 0 (fun _ => true) false n 3 ((cs.drop 3).take (Tryz.prog.cellsOf 3)) = a[3]? := I 3 _ rfl;have d : DataW.trod (fun _ => ()) Zp w 0 (fun _ => true) false n 4 ((cs.drop 4).take (Tryz.prog.cellsOf 4)) = a[4]? := I 4 _ rfl;have z : DataW.trod (fun _ => ()) Zp w 0 (fun _ => true) false n 4 ((cs.drop 5).take (Tryz.prog.cellsOf 4)) = a[5]? := I 5 _ rfl;have X : DataW.trod (fun _ => ()) Zp w 0 (fun _ => true) false n 4 ((cs.drop 6).take (Tryz.prog.cellsOf 4)) = a[6]? := I 6 _ rfl;have e : DataW.trod (fun _ => ()) Zp w 0 (fun _ => true) false n 4 ((cs.drop 7).take (Tryz.prog.cellsOf 4)) = a[7]? := I 7 _ rfl;rw [F] at c M T Q;rw [y] at d z X e;apply List.ext_getElem?;intro i
 match i with
 | 0 => exact int_at c C rfl
 | 1 => exact int_at M C rfl
 | 2 => exact int_at T C rfl
 | 3 => exact int_at Q C rfl
 | 4 => exact bool_at d C rfl
 | 5 => exact bool_at z C rfl
 | 6 => exact bool_at X C rfl
 | 7 => exact bool_at e C rfl
 | i + 8 => rw [List.getElem?_eq_none U, List.getElem?_eq_none (by simp [Bl])]
section
variable {H : Type} {enc : TypeId × Value → H} {W : World} {sp : Nat → Bool} {hd : Bool} {r : Reach} {b : Nat} {v : Value} {x : DataW H × List MemPlace}
theorem open_intl {m : Nat} {cs : LV} (h : DataW.trod enc Zp W 0 sp hd m 24 cs = some x) : ∃ (a : Option Addr) (c : Nat) (l : List Int), cs = [.slice a l.length c] ∧ Sl AZ W (.slice a l.length c) l.length (l.map (iV)) := by
 rcases open_ints Tryz.underlying24 Tryz.underlying3 cellI h with ⟨rfl, _⟩ | ⟨a, d, g, e, rfl, _, M, A, n, _, j, q⟩
 ·exact ⟨none, 0, [], rfl, ⟨none, 0, rfl, Nat.le_refl _, by omega, fun _ => rfl, .inl rfl⟩⟩
 ·have D : d ≤ e.length := by rw [n]; split <;> omega
  have y : (e.take d).length = d := by simp; omega
  refine ⟨some a, g, e.take d, by rw [y], some a, g, rfl, by omega, by simp only [maxLen] at A; omega, (fun h => by cases h), ?_⟩;by_cases p : d = 0
  ·left; omega
  ·right;have k : a.spot = none := spot_none (a := a.add 0) (j 0 U);obtain ⟨b, o, s⟩ := a;simp only at k;subst k;refine ⟨b, o, rfl, trivial, fun i u f => ?_⟩
   have F : i < d := by
    have := (List.getElem?_eq_some_iff.1 f).1;rw [List.length_map] at this; omega
   rw [List.getElem?_map, List.getElem?_take, if_pos F, List.getElem?_eq_getElem U] at f;cases f;have X := j i U;rw [Addr.add_lit] at X;rw [X]
   congr 2
   simp [List.getD_eq_getElem?_getD, show i < e.length by omega]
set_option maxRecDepth 100000 in
theorem arg_ints (A : Value.okWide Zp W r b 24 v) (h : ∃ n, DataW.trod enc Zp W 0 sp hd n 24 v.cells.toList = some x) : ∃ (a : Option Addr) (c : Nat) (l : List Int), v = .slice a l.length c ∧ Sl AZ W (.slice a l.length c) l.length (l.map (iV)) := by
 obtain ⟨n, h⟩ := h;obtain ⟨a, c, l, e, M⟩ := open_intl h;exact ⟨a, c, l, val_one Tryz.underlying24 A e, M⟩
theorem cellL : Tryz.prog.cellsOf 26 = 2 := by kernel_rfl
theorem cellIs : Tryz.prog.cellsOf 24 = 1 := by kernel_rfl
set_option maxRecDepth 100000 in
theorem arg_las (A : Value.okWide Zp W r b 26 v) (h : ∃ n, DataW.trod enc Zp W 0 sp hd n 26 v.cells.toList = some x) : ∃ (c : LV) (K D : List Int), v = .agg c.toArray ∧ LasG W c K D := by
 obtain ⟨n, h⟩ := h;have B := val_struct Tryz.underlying26 A;obtain ⟨j, m, _, _, l, C, I⟩ := DataW.trod_struct Tryz.underlying26 h;rw [cellL] at l;obtain ⟨X, G, T⟩ := lenS l;rw [T] at I;have o : j.length = 2 := C;have q : DataW.trod enc Zp W 0 sp hd m 24 ((List.drop 0 [X, G]).take (Tryz.prog.cellsOf 24)) = j[0]? := I 0 _ rfl;have M : DataW.trod enc Zp W 0 sp hd m 24 ((List.drop 1 [X, G]).take (Tryz.prog.cellsOf 24)) = j[1]? := I 1 _ rfl;rw [cellIs] at q M;obtain ⟨F, N⟩ := BM (i := 0) o U;obtain ⟨L, y⟩ := BM (i := 1) o U;obtain ⟨k, E, a, p, s⟩ := open_intl (q.trans N);obtain ⟨e, f, g, d, z⟩ := open_intl (M.trans y);have t : X = .slice k a.length E := by simpa using p
 have u : G = .slice e g.length f := by simpa using d
 subst t u;exact ⟨[.slice k a.length E, .slice e g.length f], a, g, by rw [B, ← T, Array.toArray_toList], k, E, e, f, rfl, s, z⟩
end
def laidL : List (String × DataW Unit) := [("math/bits.deBruijn32tab", Rows.laid_math_bits_deBruijn32tab), ("math/bits.deBruijn64tab", Rows.laid_math_bits_deBruijn64tab), ("internal/strconv.uint64pow10", Rows.laid_internal_strconv_uint64pow10), ("strconv.ErrRange", Rows.laid_strconv_ErrRange), ("strconv.ErrSyntax", Rows.laid_strconv_ErrSyntax), ("foresight/signal.keys", Rows.laid_foresight_signal_keys), ("foresight/formula.forms", Rows.laid_foresight_formula_forms), ("foresight/lexer.spans", Rows.laid_foresight_lexer_spans), ("foresight/lexer.symbols", Rows.laid_foresight_lexer_symbols)]
theorem gp_of_laid {W : World} (h : laidMetH Zp laidL W) : GK W ∧ GF W := by
 have t : laidMet Zp laidL W := h;obtain ⟨ps, ⟨g1, t1, a8, b7, p1, q1, d1, d5, d9, c6, ⟨g2, t2, a9, b8, p2, q2, d2, d6, a3, c7, ⟨g3, t3, b0, b9, p3, q3, L, X, e0, c8, ⟨g4, t4, b1, c0, p4, q4, d3, d7, e1, c9, ⟨g5, t5, b2, c1, p5, q5, d4, d8, e2, d0, ⟨g6, t6, b3, c2, p6, q6, V, Z, a4, D, ⟨g9, t9, b6, c5, p9, q9, T, a2, a7, N, ⟨g7, t7, b4, c3, p7, q7, I, a0, a5, F, ⟨g8, t8, b5, c4, p8, q8, R, a1, a6, K, _, _⟩, _⟩, _⟩, _⟩, _⟩, _⟩, _⟩, _⟩, _⟩, _⟩ := t;have n2 : Tryz.prog.globalNamed "math/bits.deBruijn64tab" = some 9 := by kernel_rfl
 have o : Tryz.prog.globalNamed "foresight/signal.keys" = some 0 := by kernel_rfl
 have s : Tryz.prog.globalNamed "foresight/lexer.spans" = some 3 := by kernel_rfl
 have Q : Tryz.prog.globalNamed "foresight/lexer.symbols" = some 4 := by kernel_rfl
 have z : Tryz.prog.globalNamed "foresight/formula.forms" = some 2 := by kernel_rfl
 have n3 : Tryz.prog.globalNamed "internal/strconv.uint64pow10" = some 7 := by kernel_rfl
 have y9 : (Tryz.prog.globals[2]?).map (·.type) = some 236 := by kernel_rfl
 have y3 : (Tryz.prog.globals[7]?).map (·.type) = some 327 := by kernel_rfl
 have y6 : (Tryz.prog.globals[0]?).map (·.type) = some 196 := by kernel_rfl
 have y7 : (Tryz.prog.globals[3]?).map (·.type) = some 249 := by kernel_rfl
 have y8 : (Tryz.prog.globals[4]?).map (·.type) = some 272 := by kernel_rfl
 obtain rfl := Option.some.inj (z.symm.trans T);obtain rfl := Option.some.inj (n3.symm.trans L);obtain rfl := Option.some.inj (y9.symm.trans a2);obtain rfl := Option.some.inj (y3.symm.trans X);obtain rfl := Option.some.inj (o.symm.trans V);obtain rfl := Option.some.inj (s.symm.trans I);obtain rfl := Option.some.inj (Q.symm.trans R);obtain rfl := Option.some.inj (y6.symm.trans Z);obtain rfl := Option.some.inj (y7.symm.trans a0);obtain rfl := Option.some.inj (y8.symm.trans a1);refine ⟨⟨⟨?_, ?_, ?_⟩, ?_⟩, ?_⟩
 ·obtain ⟨M, m, g⟩ := trod_arr (ds := spansL.map spanD) Tryz.underlying249 (by kernel_rfl : Tryz.prog.cellsOf 248 = 3) (by kernel_rfl) F;intro j u c;have y : j < 48 := (List.getElem?_eq_some_iff.1 c).1;obtain ⟨p, a⟩ : ∃ p, spansL[j / 3]? = some p := ⟨_, List.getElem?_eq_getElem (by show j / 3 < 16; omega)⟩;obtain ⟨d, q, C, S⟩ := g (j / 3) U;rw [List.getElem?_map, a] at C;cases C;have k := span_piece S;have A := spanC_at spansL (j / 3) p a;obtain ⟨v, i⟩ : ∃ v, (spanC1 p)[j % 3]? = some v := ⟨_, List.getElem?_eq_getElem (by show j % 3 < 3; omega)⟩;have G := DU k i;have E := DU A i;rw [show j / 3 * 3 + j % 3 = j by omega] at G E;have f : (spansL.flatMap spanC1)[j]? = some u := c;rw [E] at f;rw [Nat.zero_add, World.var?_cell s a5 j];rw [← f, ← G];simp
 ·obtain ⟨M, m, g⟩ := trod_arr (ds := symsL.map fun l => .lit (.string l)) Tryz.underlying272 (by kernel_rfl : Tryz.prog.cellsOf 9 = 1) (by kernel_rfl) K;intro j u c;have y : j < 15 := (List.getElem?_eq_some_iff.1 c).1;obtain ⟨p, a⟩ : ∃ p, symsL[j]? = some p := ⟨_, List.getElem?_eq_getElem y⟩;obtain ⟨d, q, C, S⟩ := g j y;rw [List.getElem?_map, a] at C;cases C;have G := DU (r := 0) (sym_piece S) rfl;have f : (symsL.map AI)[j]? = some u := c;rw [List.getElem?_map, a] at f;cases f;rw [Nat.zero_add, World.var?_cell Q a6 j];simpa using G
 ·have n := a3;simp only [World.var?, n2, Option.bind_some] at n
  split at n
  ·rename_i e;have := (Array.getElem?_eq_some_iff.1 e).1;omega
  ·cases n
 ·obtain ⟨M, m, g⟩ := trod_arr (ds := keysL.map fun l => .lit (.string l)) Tryz.underlying196 (by kernel_rfl : Tryz.prog.cellsOf 9 = 1) (by kernel_rfl) D;intro j u c;have y : j < 10 := (List.getElem?_eq_some_iff.1 c).1;obtain ⟨p, a⟩ : ∃ p, keysL[j]? = some p := ⟨_, List.getElem?_eq_getElem y⟩;obtain ⟨d, q, C, S⟩ := g j y;rw [List.getElem?_map, a] at C;cases C;have G := DU (r := 0) (sym_piece S) rfl;have f : (keysL.map AI)[j]? = some u := c;rw [List.getElem?_map, a] at f;cases f;rw [Nat.zero_add, World.var?_cell o a4 j];simpa using G
 ·obtain ⟨M, m, g⟩ := trod_arr (ds := formsL.map formD) Tryz.underlying236 (by kernel_rfl : Tryz.prog.cellsOf 190 = 8) (by kernel_rfl) N;intro j u c;have y : j < 160 := (List.getElem?_eq_some_iff.1 c).1;obtain ⟨p, a⟩ : ∃ p, formsL[j / 8]? = some p := ⟨_, List.getElem?_eq_getElem (by show j / 8 < 20; omega)⟩;obtain ⟨d, q, C, S⟩ := g (j / 8) U;rw [List.getElem?_map, a] at C;cases C;have k := form_piece S;obtain ⟨v, i⟩ : ∃ v, (Bl p)[j % 8]? = some v := ⟨_, List.getElem?_eq_getElem (by show j % 8 < 8; omega)⟩;have G := DU k i;have E := formC_at formsL (j / 8) (j % 8) p v a i;rw [show j / 8 * 8 + j % 8 = j by omega] at G E;have f : (formsL.flatMap Bl)[j]? = some u := c;rw [E] at f;rw [Nat.zero_add, World.var?_cell z a7 j];rw [← f, ← G];simp
set_option maxRecDepth 100000 in
theorem law_liftedL {T : Os} (a2 : T.Started) {k : FuncId} {fn : Func} {s : ChangeSpec} {y : List PathCond} {fresh : Bool} {H : Type} {enc : TypeId × Value → H} (F : Stop.Interp) (a1 : Tryz.prog.inits.idxOf? k = none) (E : Tryz.prog.funcs[k]? = some fn)
  (a3 : ∃ (w : World) (c : Tape) (i : Input), w.os = T ∧ (w.forCall c i).Shaped Zp ∧ i.vars = [] ∧ Input.okWide Zp (w.forCall c i) .any w.heap.size k i ∧
   (OpenSpec.ofChange s).preRow enc Zp fn y false laidL (w.forCall c i).memory i.args ∧ ({} : Assume).holds Zp (lone (Frame.enter Zp k i.args .normal) [] (w.forCall c i)))
  (D : s.vars = []) (Z : (fn.params.toList.all fun t => decide (t < Tryz.prog.types.size)) = true) (K : fn.resultTypes = #[4])
  (V : ∀ ds : List (DataW H), ds.length = fn.params.toList.length → s.fn H ds = { results := [.lit (.bool true)], args := ds })
  (a0 : ∀ (W : World) (l : Nat) (args : LV) (ds : List (DataW H)) (p : List MemPlace), (∀ (j : Nat) t v, fn.params.toList[j]? = some t → args[j]? = some v → Value.okWide Zp W .any l t v) →
   DataW.TrodAll enc Zp W 0 (fun _ => true) true fn.params.toList args ds p → GK W ∧ GF W → Fn Zp k args W fun v w' => v = .bool true ∧ Ext W w') :
  ReturnsInHanded {} Tryz.checked T k .any ((OpenSpec.ofChange s).preRow enc Zp fn y false laidL) (((OpenSpec.ofChange s).at F).post enc Zp fn false fresh false false) := by
 refine returnsInHanded_of_row (C := Tryz.checked) (s := OpenSpec.ofChange s) own a2 a1 E a3 ?_;intro W l args ds f L A B _ _ _ M _ _;have Q : DataW.Whole enc Zp fn.params.toList s.vars false W args.toList ds f L := B;obtain ⟨p, q, G, N, rfl, hf, hn⟩ := B
 have z : f = [] := by
  have I : DataW.TrodVars enc Zp W (fun _ => true) s.vars f q := N;rw [D] at I;cases f with
  | nil => rfl
  | cons _ _ => exact I.elim
 subst z
 have R : ∀ {m : List TypeId} {u : LV} {ds : List (DataW H)} {o : List MemPlace}, DataW.TrodAll enc Zp W 0 (fun _ => true) true m u ds o → ds.length = m.length := by
  intro m
  induction m with
  | nil => intro u ds o h; obtain ⟨rfl, rfl, rfl⟩ := trodAll_nil h; rfl
  | cons t m ih => intro u ds o h; obtain ⟨v, a5, d, a4, a, b, rfl, rfl, rfl, X, n⟩ := trodAll_cons h; simp [ih n]
 refine Calls.mono (a0 W l args.toList ds p (fun j t v X n => A j t v (Array.getElem?_toList.symm.trans X) (Array.getElem?_toList.symm.trans n)) G (gp_of_laid M)) fun e W' g => ?_;cases e with
 | returned v =>
  refine ⟨v, rfl, post_of_ext kids full (fun t S => of_decide_eq_true (List.all_eq_true.1 Z t S)) D Q ?_ K Tryz.underlying4 g.1 g.2⟩;rw [List.append_nil]; exact V ds (R G)
 | panicked ch => exact g.elim
 | outgrown => exact g.elim
def layC (cs : LV) : Obj → Obj
 | .cells _ t frozen => .cells cs.toArray t frozen
 | o => o
def tabC : DataW Unit → LV
 | .agg l => l.map fun d => match d with | .lit (.int k z) => .int k z | _ => .bool false
 | _ => []
noncomputable def laidWorld (T : Os) : World :=
 let w := World.holding Zp T ⟨#[.cells #[AI [118, 97, 108, 117, 101, 32, 111, 117, 116, 32, 111, 102, 32, 114, 97, 110, 103, 101]] 317, .cells #[AI [105, 110, 118, 97, 108, 105, 100, 32, 115, 121, 110, 116, 97, 120]] 317], #[], []⟩
 { w with heap := (((((((((w.heap.modify 2 (layC formC)).modify 3 (layC spanC)).modify 4 (layC symC)).modify 0 (layC keyC)).modify 6 (layC [.iface 315 (.pointer (sm 15))])).modify 5 (layC [.iface 315 (.pointer (sm 16))])).modify 7 (layC (tabC Rows.laid_internal_strconv_uint64pow10))).modify 8 (layC (tabC Rows.laid_math_bits_deBruijn32tab))).modify 9 (layC (tabC Rows.laid_math_bits_deBruijn64tab))) }
end
theorem joined_of {P : Program} {f : FuncId} {fn : Func} {s : ChangeSpec} {c : OpenClaim} (a : (c.wf (OpenSpec.ofChange s)) = true) (X : (laidOutB P) = true) (W : (mapsRowed P) = true) (D : (fn.params.all (P.readableRec ·)) = true) (w : (namedTie P c.named s.vars) = true) (F : (c.stops == []) = true) (G : (P.stops == []) = true) (H : (c.knobs == []) = true) (y : (P.stopKnobs == []) = true) (v : (c.inPlace == P.inPlace f) = true) (b : (c.unfollowed == P.unfollowed f) = true) (e : (c.recurses == P.recurses f) = true) (z : (c.named == P.varsNamed f) = true) (r : (c.maps == (fn.params.toList ++ s.plain.varTypes P).any (P.mapsRec ·)) = true) (u : (c.ifaces == (fn.params.toList ++ s.plain.varTypes P).any (P.ifacesRec ·)) = true) (q : (c.mapsOut == P.mapsAmong fn.resultTypes.toList) = true) (R : (c.loops == (fn.params.toList ++ s.plain.varTypes P).any (P.loopsFrom ·)) = true) (n : (c.wideKeys == (fn.params.toList ++ s.plain.varTypes P ++ fn.resultTypes.toList).any (P.wideKeysFrom ·)) = true) (p : (s.vars.all (P.varReadable ·)) = true) (o : (fn.resultTypes.all (fun t => P.readableRec t && decide (t < P.types.size))) = true) (i : (c.ifacesOut == fn.resultTypes.toList.any (P.ifacesRec ·)) = true) (x : (c.loopsOut == fn.resultTypes.toList.any (P.loopsFrom ·)) = true) (m : (c.plainKeys == P.plainKeys) = true) (A : (c.shortTexts.isNone) = true) (d : (P.stopsHeard) = true) (l : (P.mayEnter) = true) (B : (c.lifted == P.liftsFinal) = true) (j : (P.make == some c.make) = true) (C : (c.kinds == (if c.domain.isEmpty then [] else fn.params.toList.map fun t => match P.underlying t with | some (.int k) => some k | _ => none)) = true) (h : (c.pinned == c.pinnedBy) = true) (g : (c.veiled == (fn.params.toList ++ s.plain.varTypes P ++ fn.resultTypes.toList).any (P.veiledRec ·)) = true) (E : (c.veiledFits P fn.params.toList (fn.params.toList ++ s.plain.varTypes P ++ fn.resultTypes.toList)) = true) : joinedFacts P f fn s c = true := by
 unfold joinedFacts;simp only [Bool.and_eq_true];exact ⟨⟨⟨⟨⟨⟨⟨⟨⟨⟨⟨⟨⟨⟨⟨⟨⟨⟨⟨⟨⟨⟨⟨⟨⟨⟨⟨⟨⟨⟨⟨a, X⟩, W⟩, D⟩, w⟩, F⟩, G⟩, H⟩, y⟩, v⟩, b⟩, e⟩, z⟩, r⟩, u⟩, q⟩, R⟩, n⟩, p⟩, o⟩, i⟩, x⟩, m⟩, A⟩, d⟩, l⟩, B⟩, j⟩, C⟩, h⟩, g⟩, E⟩
theorem TopGoalsGoOn_j0 : (Rows.topGoalsGoOnRow.wf (OpenSpec.ofChange (OpenSpec.ofChange Rows.topGoalsGoOnSpec).bare)) = true := by kernel_rfl
theorem TopGoalsGoOn_j1 : (laidOutB Zp) = true := by kernel_rfl
theorem TopGoalsGoOn_j2 : (mapsRowed Zp) = true := by kernel_rfl
theorem TopGoalsGoOn_j3 : (Tryz.f4.params.all (Tryz.prog.readableRec ·)) = true := by kernel_rfl
theorem TopGoalsGoOn_j4 : (namedTie Zp Rows.topGoalsGoOnRow.named (OpenSpec.ofChange Rows.topGoalsGoOnSpec).bare.vars) = true := by kernel_rfl
theorem TopGoalsGoOn_j5 : ((Rows.topGoalsGoOnRow.stops == [])) = true := by kernel_rfl
theorem TopGoalsGoOn_j6 : ((Tryz.prog.stops == [])) = true := by kernel_rfl
theorem TopGoalsGoOn_j7 : ((Rows.topGoalsGoOnRow.knobs == [])) = true := by kernel_rfl
theorem TopGoalsGoOn_j8 : ((Tryz.prog.stopKnobs == [])) = true := by kernel_rfl
theorem TopGoalsGoOn_j9 : ((Rows.topGoalsGoOnRow.inPlace == Tryz.prog.inPlace 4)) = true := by kernel_rfl
theorem TopGoalsGoOn_j10 : ((Rows.topGoalsGoOnRow.unfollowed == Tryz.prog.unfollowed 4)) = true := by kernel_rfl
theorem TopGoalsGoOn_j11 : ((Rows.topGoalsGoOnRow.recurses == Tryz.prog.recurses 4)) = true := by kernel_rfl
theorem TopGoalsGoOn_j12 : ((Rows.topGoalsGoOnRow.named == Tryz.prog.varsNamed 4)) = true := by kernel_rfl
theorem TopGoalsGoOn_j13 : ((Rows.topGoalsGoOnRow.maps == (Tryz.f4.params.toList ++ (OpenSpec.ofChange Rows.topGoalsGoOnSpec).bare.plain.varTypes Zp).any (Tryz.prog.mapsRec ·))) = true := by kernel_rfl
theorem TopGoalsGoOn_j14 : ((Rows.topGoalsGoOnRow.ifaces == (Tryz.f4.params.toList ++ (OpenSpec.ofChange Rows.topGoalsGoOnSpec).bare.plain.varTypes Zp).any (Tryz.prog.ifacesRec ·))) = true := by kernel_rfl
theorem TopGoalsGoOn_j15 : ((Rows.topGoalsGoOnRow.mapsOut == Tryz.prog.mapsAmong Tryz.f4.resultTypes.toList)) = true := by kernel_rfl
theorem TopGoalsGoOn_j16 : ((Rows.topGoalsGoOnRow.loops == (Tryz.f4.params.toList ++ (OpenSpec.ofChange Rows.topGoalsGoOnSpec).bare.plain.varTypes Zp).any (Tryz.prog.loopsFrom ·))) = true := by kernel_rfl
theorem TopGoalsGoOn_j17 : ((Rows.topGoalsGoOnRow.wideKeys == (Tryz.f4.params.toList ++ (OpenSpec.ofChange Rows.topGoalsGoOnSpec).bare.plain.varTypes Zp ++ Tryz.f4.resultTypes.toList).any (Tryz.prog.wideKeysFrom ·))) = true := by kernel_rfl
theorem TopGoalsGoOn_j18 : ((OpenSpec.ofChange Rows.topGoalsGoOnSpec).bare.vars.all (Tryz.prog.varReadable ·)) = true := by kernel_rfl
theorem TopGoalsGoOn_j19 : (Tryz.f4.resultTypes.all (fun t => Tryz.prog.readableRec t && decide (t < Tryz.prog.types.size))) = true := by kernel_rfl
theorem TopGoalsGoOn_j20 : ((Rows.topGoalsGoOnRow.ifacesOut == Tryz.f4.resultTypes.toList.any (Tryz.prog.ifacesRec ·))) = true := by kernel_rfl
theorem TopGoalsGoOn_j21 : ((Rows.topGoalsGoOnRow.loopsOut == Tryz.f4.resultTypes.toList.any (Tryz.prog.loopsFrom ·))) = true := by kernel_rfl
theorem TopGoalsGoOn_j22 : ((Rows.topGoalsGoOnRow.plainKeys == Tryz.prog.plainKeys)) = true := by kernel_rfl
theorem TopGoalsGoOn_j23 : (Rows.topGoalsGoOnRow.shortTexts.isNone) = true := by kernel_rfl
theorem TopGoalsGoOn_j24 : (Tryz.prog.stopsHeard) = true := by kernel_rfl
theorem TopGoalsGoOn_j25 : (Tryz.prog.mayEnter) = true := by kernel_rfl
theorem TopGoalsGoOn_j26 : ((Rows.topGoalsGoOnRow.lifted == Tryz.prog.liftsFinal)) = true := by kernel_rfl
theorem TopGoalsGoOn_j27 : ((Tryz.prog.make == some Rows.topGoalsGoOnRow.make)) = true := by kernel_rfl
theorem TopGoalsGoOn_j28 : ((Rows.topGoalsGoOnRow.kinds == (if Rows.topGoalsGoOnRow.domain.isEmpty then [] else Tryz.f4.params.toList.map fun t => match Tryz.prog.underlying t with | some (.int k) => some k | _ => none))) = true := by kernel_rfl
theorem TopGoalsGoOn_j29 : ((Rows.topGoalsGoOnRow.pinned == Rows.topGoalsGoOnRow.pinnedBy)) = true := by kernel_rfl
theorem TopGoalsGoOn_j30 : ((Rows.topGoalsGoOnRow.veiled == (Tryz.f4.params.toList ++ (OpenSpec.ofChange Rows.topGoalsGoOnSpec).bare.plain.varTypes Zp ++ Tryz.f4.resultTypes.toList).any (Tryz.prog.veiledRec ·))) = true := by kernel_rfl
theorem TopGoalsGoOn_j31 : (Rows.topGoalsGoOnRow.veiledFits Zp Tryz.f4.params.toList (Tryz.f4.params.toList ++ (OpenSpec.ofChange Rows.topGoalsGoOnSpec).bare.plain.varTypes Zp ++ Tryz.f4.resultTypes.toList)) = true := by kernel_rfl
theorem TopGoalsGoOn_joined0 : joinedFacts Tryz.prog 4 Tryz.f4 (OpenSpec.ofChange Rows.topGoalsGoOnSpec).bare Rows.topGoalsGoOnRow = true := joined_of TopGoalsGoOn_j0 TopGoalsGoOn_j1 TopGoalsGoOn_j2 TopGoalsGoOn_j3 TopGoalsGoOn_j4 TopGoalsGoOn_j5 TopGoalsGoOn_j6 TopGoalsGoOn_j7 TopGoalsGoOn_j8 TopGoalsGoOn_j9 TopGoalsGoOn_j10 TopGoalsGoOn_j11 TopGoalsGoOn_j12 TopGoalsGoOn_j13 TopGoalsGoOn_j14 TopGoalsGoOn_j15 TopGoalsGoOn_j16 TopGoalsGoOn_j17 TopGoalsGoOn_j18 TopGoalsGoOn_j19 TopGoalsGoOn_j20 TopGoalsGoOn_j21 TopGoalsGoOn_j22 TopGoalsGoOn_j23 TopGoalsGoOn_j24 TopGoalsGoOn_j25 TopGoalsGoOn_j26 TopGoalsGoOn_j27 TopGoalsGoOn_j28 TopGoalsGoOn_j29 TopGoalsGoOn_j30 TopGoalsGoOn_j31
theorem TopGoalsGoOn_joined : joinedFacts Tryz.pinned.checked.prog 4 Tryz.f4 (OpenSpec.ofChange Rows.topGoalsGoOnSpec).bare Rows.topGoalsGoOnRow = true := by
 rw [show Tryz.pinned.checked.prog = Tryz.prog from by kernel_rfl];exact TopGoalsGoOn_joined0
section
open Go.ChangeAt Go.ChangeShapes Go.WideShapes
set_option maxRecDepth 100000 in
theorem TopGoalsGoOn_open {H : Type} {enc : TypeId × Value → H} (W : World) (d : Nat) (args : LV) (ds : List (DataW H)) (p : List MemPlace) (A : ∀ (j : Nat) t v, Tryz.f4.params.toList[j]? = some t → args[j]? = some v → Value.okWide Zp W .any d t v)
  (G : DataW.TrodAll enc Zp W 0 (fun _ => true) true Tryz.f4.params.toList args ds p) (D : GK W ∧ GF W) : Fn Zp 4 args W fun v w' => v = .bool true ∧ Ext W w' := by
 rw [Tryz.params4] at G A;obtain ⟨q, _, r, _, k, S, rfl, rfl, rfl, e, V⟩ := trodAll_cons G;obtain ⟨u, _, x, _, C, I, rfl, rfl, rfl, X, o⟩ := trodAll_cons V;obtain ⟨N, _, y, _, F, a, rfl, rfl, rfl, f, l⟩ := trodAll_cons o;obtain ⟨rfl, rfl, rfl⟩ := trodAll_nil l;obtain ⟨w, s, rfl, Q, P, rfl, h, z⟩ := arg_spc (A 0 _ q rfl rfl) e;obtain ⟨R, b, i, rfl, K⟩ := arg_ints (A 1 _ u rfl rfl) X;obtain ⟨c, E, g, rfl, M⟩ := arg_las (A 2 _ N rfl rfl) f;obtain ⟨n, L, rfl, _⟩ := h.len;obtain ⟨m, B, rfl, _⟩ := z.len;exact goalsGoOn_ok W n L m B s R b i c E g h z K M D.1 D.2 D.1.keys D.1.gv.size
theorem TopGoalsGoOn_laidMet (T : Os) : laidMet Zp laidL ((laidWorld T).forCall (fun _ _ => 0) ⟨#[], #[.agg #[.slice none 0 0, .slice none 0 0], .slice none 0 0, .agg #[.slice none 0 0, .slice none 0 0]], []⟩).memory := laidMet_of_run' 8 Dk Dk
theorem TopGoalsGoOn_reads (T : Os) {H : Type} (enc : TypeId × Value → H) : ∃ a, DataW.whole enc Zp ((laidWorld T).forCall (fun _ _ => 0) ⟨#[], #[.agg #[.slice none 0 0, .slice none 0 0], .slice none 0 0, .agg #[.slice none 0 0, .slice none 0 0]], []⟩).memory Tryz.f4.params.toList Rows.topGoalsGoOnSpec.vars false #[.agg #[.slice none 0 0, .slice none 0 0], .slice none 0 0, .agg #[.slice none 0 0, .slice none 0 0]].toList 8 = some ([.agg [.nil, .nil], .nil, .agg [.nil, .nil]], [], a) := ⟨[], by kernel_rfl⟩
set_option maxRecDepth 100000 in
theorem TopGoalsGoOn_lifted (T : Os) (Z : T.Started) (H : Type) (enc : TypeId × Value → H) (F : Stop.Interp) :
  ReturnsInHanded {} Tryz.checked T 4 .any ((OpenSpec.ofChange Rows.topGoalsGoOnSpec).preRow enc Zp Tryz.f4 Rows.topGoalsGoOnRow.domain false Rows.topGoalsGoOnRow.laid) (((OpenSpec.ofChange Rows.topGoalsGoOnSpec).at F).post enc Zp Tryz.f4 false true false false) := by
 obtain ⟨a, V⟩ := TopGoalsGoOn_reads T enc
 exact law_liftedL Z F Dk Tryz.func4
  (witness_row_atRef (enc := enc) (C := Tryz.checked) false (laidWorld T) #[.agg #[.slice none 0 0, .slice none 0 0], .slice none 0 0, .agg #[.slice none 0 0, .slice none 0 0]] rfl Dk Dk Dk
   (OpenSpec.preRow_of_cond 8 V Dk (fun k P => by cases P) Dk (TopGoalsGoOn_laidMet T))) rfl Dk Dk
  (fun m h => by
   match m, h with
   | [d1, d2, d3], _ => rfl) TopGoalsGoOn_open
theorem TopGoalsGoOn_said : Rows.TopGoalsGoOnSaid :=
 OpenClaim.holds_of_cond 4 Tryz.f4 rfl rfl rfl rfl rfl rfl rfl ⟨rfl, rfl, rfl, rfl, rfl⟩ rfl rfl rfl rfl rfl Dk Tryz.func4 TopGoalsGoOn_joined
  (of_decide_eq_true Dk) (by unfold Func.isWrapper; first | (rw [if_pos (by decide +kernel)]; kernel_rfl) | (rw [if_neg (by decide +kernel)]; exact ⟨rfl, rfl⟩))
  (fun T Z H I _ F => by rw [OpenClaim.pre_eq_preRow]; exact TopGoalsGoOn_lifted T Z H I F)
theorem TopGoalsGoOn_plain (f : FuncId) (fn : Func) (I : Tryz.pinned.checked.prog.funcNamed "foresight/foresighttop.TopGoalsGoOn" = some f) (E : Tryz.pinned.checked.prog.funcs[f]? = some fn) :
  true = Tryz.pinned.checked.prog.looks [] ∧ ∀ (j : Nat) t, fn.params[j]? = some t → Tryz.pinned.checked.prog.wantsStandIn t = false := by
 obtain rfl : f = 4 := Option.some.inj ((show Tryz.prog.funcNamed "foresight/foresighttop.TopGoalsGoOn" = some 4 by kernel_rfl).symm.trans I) |>.symm;obtain rfl : fn = Tryz.f4 := (Option.some.inj (Tryz.func4.symm.trans E)).symm;refine ⟨by kernel_rfl, fun j t S => ?_⟩;have V : (Tryz.f4.params.toList.all fun t => !Tryz.prog.wantsStandIn t) = true := by kernel_rfl
 have := List.all_eq_true.1 V t (by simpa using Array.mem_of_getElem? S);exact Bool.not_eq_true' _ |>.mp this
theorem TopGoalsGoOn_proved : Rows.TopGoalsGoOnCardSaid :=
 Claim7.holds_tied_plain_at .later [] _ _ _ _ TopGoalsGoOn_said (fun _ h => by cases h) Dk (fun _ h => by cases h) topGoalsGoOn_row_tie rfl ⟨rfl, rfl⟩ Dk rfl TopGoalsGoOn_plain Dk
end
end Go.Proofs.YtohodbnnhlddpaaGreatDoor
