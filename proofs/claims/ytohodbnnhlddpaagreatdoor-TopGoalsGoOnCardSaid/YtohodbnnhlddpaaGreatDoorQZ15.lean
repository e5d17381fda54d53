/- TopGoalsGoOn, part 15 of 16: rules, lemmas, walks. Conditions: none. -/
import Derived.Test.YtohodbnnhlddpaaGreatDoorQZ14
namespace Go.Proofs.YtohodbnnhlddpaaGreatDoor
open Go.RowKit
set_option linter.unusedVariables false
theorem shapeW_ok (w : World) (v : Value) (f : Fml) (I : FAt AZ w v f) (n : szF f ≤ 1000000) : Fn Zp 341 [v] w fun u w' => Ext w w' ∧ FAt (fun b => w.heap.size ≤ b ∧ Unm w' b) w' u (C9 f) := by
 refine Fn.mono (@shape_ok True strMK w v f I n) fun u w' h => ?_;exact ⟨@Keep.weak False weakMK strMK _ _ _ h.1, h.2.mono fun b S => ⟨S, @Keep.fresh strMK _ _ _ h.1 _ S⟩⟩
theorem conj_ok (w : World) (v : Value) (f : Fml) (I : FAt AZ w v f) : Fn Zp 340 [v] w fun u w' => Ext w w' ∧ SlAt fmlR AZ w' u (conjF f) := by
 obtain ⟨D, rfl, L, h, r⟩ := I.form;obtain ⟨M, a, rfl, _⟩ := id h;refine AG Tryz.func340 rfl Tryz.ntmps340 (go ?_);refine Aj (L := [iV f.op, AI f.name, iV f.val, iV f.bound, .slice M f.args.length a]) rfl (fun Q E => go ?_);unfold conjF;by_cases X : f.op = 1
 ·rw [if_pos X];refine go ?_;exact AA rfl ⟨E.E, none, 0, [], rfl, ⟨none, 0, rfl, Nat.le_refl _, by omega, fun _ => rfl, .inl rfl⟩, RsAt.nil⟩
 ·rw [if_neg X];by_cases P : f.op = 5
  ·rw [if_pos P];refine go ?_;exact AA rfl ⟨E.E, M, a, L, rfl, h.ext E.E, r.1, fun i c g F z => ⟨r.2.1 c (List.mem_of_getElem? F), (r.2.2 i c g F z).ext E.E⟩⟩
  ·rw [if_neg P];refine go ?_;refine AL (out := [iV f.op, AI f.name, iV f.val, iV f.bound, .slice M f.args.length a]) rfl U Dr (fun b V => ?_);refine go ?_;have x := E.E.trans V.E;exact AA rfl ⟨x, some ⟨Q.heap.size, 0, none⟩, 1, [[iV f.op, AI f.name, iV f.val, iV f.bound, .slice M f.args.length a]], rfl, sl_new V, RsAt.one ⟨rfl, I.ext x⟩⟩
theorem same1_ok (w : World) (d : LV) (Z : Fml) (g : Nat) (o : Fml) (cs : LV) (I : Nat → Prop) (C : fmlR.fits AZ w d Z) (f : Blk w g 36 cs) (D : fmlR.fits I w cs o) (r : ∀ b, I b → Unm w b) (a : szF Z ≤ 1000000) :
  Fn Zp 343 [.agg d.toArray, pt g] w fun u w' => u = .bool (decide (BO Z o = 0)) ∧ Ext w w' := by
 obtain ⟨c, e, k, j, i, rfl⟩ := AX C.1;obtain ⟨F, H, K, m, v, rfl⟩ := AX D.1;have n := D.2.lt;refine AG Tryz.func343 rfl Tryz.ntmps343 (go ?_);refine Aj (L := [c, e, k, j, i]) rfl (fun Q E => go ?_);refine AC (fcompare_ok Q _ _ Z o AZ _ (C.2.ext E.E) (n.ext E.E) (.inr fun b S => (r b S.1).eq (E.E.block b S.2 O)) a) rfl ?_;rintro _ h ⟨rfl, l⟩;have x := E.E.trans l;by_cases s : BO Z o = 0
 ·refine go ?_;exact AA rfl ⟨by rw [decide_eq_true s]; rfl, x⟩
 ·refine go ?_;exact AA rfl ⟨by rw [decide_eq_false s]; rfl, x⟩
theorem can_sz {f : Fml} (h : (BV f).op ≠ 0) : szF (BV f) ≤ 400 := by
 obtain ⟨X, W⟩ := canG_op h;rw [W];exact (BG (loose_canon X)).1
theorem conj_sz {f c : Fml} (T : c ∈ conjF f) : szF c ≤ szF f := by
 unfold conjF at T
 split at T
 ·cases T
 ·split at T
  ·have := Bq T;have h := Bd f;omega
  ·simp at T; rw [T]; exact Nat.le_refl _
theorem conj_len (f : Fml) : (conjF f).length ≤ szF f ∧ szL (conjF f) ≤ szF f := by
 have h := Bd f;have W := Bv f.args;unfold conjF
 split
 ·simp [szL]
 ·split
  ·omega
  ·simp [szL]; omega
mutual
theorem shp_sz : ∀ f : Fml, szF (C9 f) = szF f
 | .mk op nm v b args => by
  rw [Bd, Bd, C9];show szL (shpL args) + 1 = szL args + 1;rw [shpL_sz args]
theorem shpL_sz : ∀ l : LF, szL (shpL l) = szL l
 | [] => rfl
 | a :: l => by simp only [shpL, szL, shp_sz a, shpL_sz l]
end
theorem szL_filter (p : Fml → Bool) : ∀ l : LF, szL (l.filter p) ≤ szL l
 | [] => Nat.le_refl _
 | a :: l => by
  have := szL_filter p l;rw [List.filter_cons]
  split
  ·simp only [szL]; omega
  ·simp only [szL]; omega
set_option maxHeartbeats 1000000 in
theorem pending_ok (w : World) (d : LV) (y : Dty) (hd : dtyR.fits AZ w d y) (hG : GF w) (hK : KY w) (hN : 10 ≤ w.heap.size) :
  Fn Zp 338 [.agg d.toArray] w fun u w' => Ext w w' ∧ FAt (fun b => w.heap.size ≤ b) w' u (pendF y.first y.now) := by
 have hd := dtyR.lt hd;have e9 := dtyR.one hd;obtain ⟨q0, q1, q2, q3, q4, a0, a1, a2, a3, a4, b0, b1, b2, b3, b4, rfl, f1, f2, f3⟩ := dty19 hd;refine AG Tryz.func338 rfl Tryz.ntmps338 (go ?_);refine Aj (L := [AI y.req.part, AI y.req.name, iV y.req.kind, q0, q1, q2, q3, q4, iV y.since, a0, a1, a2, a3, a4, b0, b1, b2, b3, b4]) rfl (fun w1 n1 => ?_);refine AQ (L := zero5) (fun w2 n2 => ?_);have z1 := n1.size;have z2 := n2.size;have e2 : Ext w w2 := n1.E.trans n2.E;have B1 := n1.D.E n2.E O;have B2 := n2.D;refine go ?_;refine AW (.read 0 (.read 1 (.read 3 (.read 4 (.alt 2 (.alt 5 (.alt 6 (.alt 7 (.alt 8 (.alt 9 .done .stop) .stop) .stop) (.alt 7 (.alt 6 (.alt 8 (.alt 9 .done .stop) .stop) .stop) .stop)) (.alt 6 (.alt 5 (.alt 7 (.alt 8 (.alt 9 .done .stop) .stop) .stop) (.alt 7 (.alt 5 (.alt 8 (.alt 9 .done .stop) .stop) .stop) .stop)) (.alt 7 (.alt 5 (.alt 6 (.alt 8 (.alt 9 .done .stop) .stop) .stop) (.alt 6 (.alt 5 (.alt 8 (.alt 9 .done .stop) .stop) .stop) .stop)) .stop))) (.alt 6 (.alt 2 (.alt 5 (.alt 7 (.alt 8 (.alt 9 .done .stop) .stop) .stop) (.alt 7 (.alt 5 (.alt 8 (.alt 9 .done .stop) .stop) .stop) .stop)) (.alt 7 (.alt 2 (.alt 5 (.alt 8 (.alt 9 .done .stop) .stop) .stop) .stop) .stop)) (.alt 7 (.alt 2 (.alt 5 (.alt 6 (.alt 8 (.alt 9 .done .stop) .stop) .stop) (.alt 6 (.alt 5 (.alt 8 (.alt 9 .done .stop) .stop) .stop) .stop)) (.alt 6 (.alt 2 (.alt 5 (.alt 8 (.alt 9 .done .stop) .stop) .stop) .stop) .stop)) .stop))))))) Al Dk (fun I kd ed => ⟨Ext I, ?_, ?_⟩)
 ·exact EZ
 have B1d := B1.E kd O;have c7 := B2.E kd O;have c2 : Cells I w.heap.size (0 + 9) [a0, a1, a2, a3, a4] := B1d.cells.part 9 5;have c3 : Cells I w.heap.size (0 + 14) [b0, b1, b2, b3, b4] := B1d.cells.part 14 5;have a6 := e2.trans kd;have a7 : FAt AZ I (.agg [a0, a1, a2, a3, a4].toArray) y.first := (f2.ext a6).mono fun _ _ => trivial
 have p : FAt AZ I (.agg [b0, b1, b2, b3, b4].toArray) y.now := (f3.ext a6).mono fun _ _ => trivial;have C := hG.ext a6;have f := hK.E a6 O;have hNd := Nat.le_trans hN a6.size;have zd := kd.size;have k0 : Ext I I := Ext.refl I;refine go ?_;refine D_R (v := .agg [a0, a1, a2, a3, a4].toArray) rfl rfl (fun V hV => by refine AR (L := [a0, a1, a2, a3, a4]) rfl rfl (c2.E hV O) ?_; exact AH ⟨rfl, rfl, rfl⟩) ?_;refine go ?_;refine D_R (v := .agg [b0, b1, b2, b3, b4].toArray) rfl rfl (fun V hV => by refine AR (L := [b0, b1, b2, b3, b4]) rfl rfl (c3.E hV O) ?_; exact AH ⟨rfl, rfl, rfl⟩) ?_;refine go ?_
 refine D_leaf (α := Nat × Nat × Value × Value × Value × Value × Value × Value × Value × Value × Value × Value) (.alt 8 (.alt 9 .done .stop) .stop) (fun u => [(2, pt w1.heap.size), (3, pt u.1), (4, pt u.2.1), (14, .agg [u.2.2.1, u.2.2.2.1, u.2.2.2.2.1, u.2.2.2.2.2.1, u.2.2.2.2.2.2.1].toArray), (17, .agg [u.2.2.2.2.2.2.2.1, u.2.2.2.2.2.2.2.2.1, u.2.2.2.2.2.2.2.2.2.1, u.2.2.2.2.2.2.2.2.2.2.1, u.2.2.2.2.2.2.2.2.2.2.2].toArray)])
  (fun u V => Ext I V ∧ I.heap.size ≤ u.1 ∧ I.heap.size ≤ u.2.1 ∧ u.1 ≠ u.2.1 ∧ Blk V u.1 36 zero5 ∧ Blk V u.2.1 36 zero5 ∧ FAt (fun b => I.heap.size ≤ b ∧ b ≠ u.1 ∧ b ≠ u.2.1) V (.agg [u.2.2.1, u.2.2.2.1, u.2.2.2.2.1, u.2.2.2.2.2.1, u.2.2.2.2.2.2.1].toArray) (BV y.first) ∧ FAt (fun b => I.heap.size ≤ b ∧ b ≠ u.1 ∧ b ≠ u.2.1) V (.agg [u.2.2.2.2.2.2.2.1, u.2.2.2.2.2.2.2.2.1, u.2.2.2.2.2.2.2.2.2.1, u.2.2.2.2.2.2.2.2.2.2.1, u.2.2.2.2.2.2.2.2.2.2.2].toArray) (BV y.now)) ?_ (fun leaf => ?_)
 rotate_left
 ·refine id ?_;refine D_A rfl ?_ ?_
  ·refine AC (BL I _ y.first (a7.ext k0) (C.ext k0) (f.E k0 O) (Nat.le_trans hNd k0.size)) rfl ?_;rintro ua V1 ⟨j1, s⟩;have s := s.lt;have z1 := j1.size;obtain ⟨csa, rfl, hcsa, -⟩ := s.cells;obtain ⟨F, P, M, T, s4, rfl⟩ := AX hcsa;have X := k0.trans j1;refine wNl X ?_;refine D_A rfl ?_ ?_
   ·refine AC (BL V1 _ y.now (p.ext X) (C.ext X) (f.E X O) (Nat.le_trans hNd X.size)) rfl ?_;rintro ub H ⟨t, n⟩;have n := n.lt;have z2 := t.size;obtain ⟨csb, rfl, N, -⟩ := n.cells;obtain ⟨E, Z, j, z, G, rfl⟩ := AX N;have l := X.trans t;refine wNl l ?_;refine D_A rfl ?_ ?_
    ·refine AQ (L := zero5) (fun D i => ?_);have B := i.size;have Q := i.E;have m := l.trans Q;refine wNl m ?_;refine D_E rfl ?_;refine AQ (L := zero5) (fun V4 K => ?_);have z4 := K.size;have g := K.E;have r := m.trans g;refine wNl r ?_;exact leaf (H.heap.size, D.heap.size, F, P, M, T, s4, E, Z, j, z, G) _ _ ag ⟨r, by simp only; omega, by simp only; omega, by simp only; omega, (i.D.E g O), K.D, ((((s.ext t).ext Q).ext g).mono fun b S => by simp only; omega), (((n.ext Q).ext g).mono fun b S => by simp only; omega)⟩
    ·refine D_E rfl ?_;refine AQ (L := zero5) (fun D K => ?_);have B := K.size;have Q := K.E;have m := l.trans Q;refine wNl m ?_;refine D_E rfl ?_;refine AQ (L := zero5) (fun V4 i => ?_);have z4 := i.size;have g := i.E;have r := m.trans g;refine wNl r ?_;exact leaf (D.heap.size, H.heap.size, F, P, M, T, s4, E, Z, j, z, G) _ _ ag ⟨r, by simp only; omega, by simp only; omega, by simp only; omega, i.D, (K.D.E g O), ((((s.ext t).ext Q).ext g).mono fun b S => by simp only; omega), (((n.ext Q).ext g).mono fun b S => by simp only; omega)⟩
   ·refine D_A rfl ?_ ?_
    ·refine AQ (L := zero5) (fun H i => ?_);have z2 := i.size;have t := i.E;have l := X.trans t;refine wNl l ?_;refine D_A rfl ?_ ?_
     ·refine AC (BL H _ y.now (p.ext l) (C.ext l) (f.E l O) (Nat.le_trans hNd l.size)) rfl ?_;rintro ub D ⟨Q, n⟩;have n := n.lt;have B := Q.size;obtain ⟨csb, rfl, N, -⟩ := n.cells;obtain ⟨E, Z, j, z, G, rfl⟩ := AX N;have m := l.trans Q;refine wNl m ?_;refine D_E rfl ?_;refine AQ (L := zero5) (fun V4 K => ?_);have z4 := K.size;have g := K.E;have r := m.trans g;refine wNl r ?_;exact leaf (V1.heap.size, D.heap.size, F, P, M, T, s4, E, Z, j, z, G) _ _ ag ⟨r, by simp only; omega, by simp only; omega, by simp only; omega, ((i.D.E Q O).E g O), K.D, ((((s.ext t).ext Q).ext g).mono fun b S => by simp only; omega), ((n.ext g).mono fun b S => by simp only; omega)⟩
     ·refine D_E rfl ?_;refine AQ (L := zero5) (fun D K => ?_);have B := K.size;have Q := K.E;have m := l.trans Q;refine wNl m ?_;refine D_E rfl ?_;refine AC (BL D _ y.now (p.ext m) (C.ext m) (f.E m O) (Nat.le_trans hNd m.size)) rfl ?_;rintro ub V4 ⟨g, n⟩;have n := n.lt;have z4 := g.size;obtain ⟨csb, rfl, N, -⟩ := n.cells;obtain ⟨E, Z, j, z, G, rfl⟩ := AX N;have r := m.trans g;refine wNl r ?_;exact leaf (V1.heap.size, H.heap.size, F, P, M, T, s4, E, Z, j, z, G) _ _ ag ⟨r, by simp only; omega, by simp only; omega, by simp only; omega, ((i.D.E Q O).E g O), (K.D.E g O), ((((s.ext t).ext Q).ext g).mono fun b S => by simp only; omega), (n.mono fun b S => by simp only; omega)⟩
    ·refine D_E rfl ?_;refine AQ (L := zero5) (fun H K => ?_);have z2 := K.size;have t := K.E;have l := X.trans t;refine wNl l ?_;refine D_A rfl ?_ ?_
     ·refine AC (BL H _ y.now (p.ext l) (C.ext l) (f.E l O) (Nat.le_trans hNd l.size)) rfl ?_;rintro ub D ⟨Q, n⟩;have n := n.lt;have B := Q.size;obtain ⟨csb, rfl, N, -⟩ := n.cells;obtain ⟨E, Z, j, z, G, rfl⟩ := AX N;have m := l.trans Q;refine wNl m ?_;refine D_E rfl ?_;refine AQ (L := zero5) (fun V4 i => ?_);have z4 := i.size;have g := i.E;have r := m.trans g;refine wNl r ?_;exact leaf (D.heap.size, V1.heap.size, F, P, M, T, s4, E, Z, j, z, G) _ _ ag ⟨r, by simp only; omega, by simp only; omega, by simp only; omega, i.D, ((K.D.E Q O).E g O), ((((s.ext t).ext Q).ext g).mono fun b S => by simp only; omega), ((n.ext g).mono fun b S => by simp only; omega)⟩
     ·refine D_E rfl ?_;refine AQ (L := zero5) (fun D i => ?_);have B := i.size;have Q := i.E;have m := l.trans Q;refine wNl m ?_;refine D_E rfl ?_;refine AC (BL D _ y.now (p.ext m) (C.ext m) (f.E m O) (Nat.le_trans hNd m.size)) rfl ?_;rintro ub V4 ⟨g, n⟩;have n := n.lt;have z4 := g.size;obtain ⟨csb, rfl, N, -⟩ := n.cells;obtain ⟨E, Z, j, z, G, rfl⟩ := AX N;have r := m.trans g;refine wNl r ?_;exact leaf (H.heap.size, V1.heap.size, F, P, M, T, s4, E, Z, j, z, G) _ _ ag ⟨r, by simp only; omega, by simp only; omega, by simp only; omega, (i.D.E g O), ((K.D.E Q O).E g O), ((((s.ext t).ext Q).ext g).mono fun b S => by simp only; omega), (n.mono fun b S => by simp only; omega)⟩
  ·refine D_A rfl ?_ ?_
   ·refine AQ (L := zero5) (fun V1 i => ?_);have z1 := i.size;have j1 := i.E;have X := k0.trans j1;refine wNl X ?_;refine D_A rfl ?_ ?_
    ·refine AC (BL V1 _ y.first (a7.ext X) (C.ext X) (f.E X O) (Nat.le_trans hNd X.size)) rfl ?_;rintro ua H ⟨t, s⟩;have s := s.lt;have z2 := t.size;obtain ⟨csa, rfl, hcsa, -⟩ := s.cells;obtain ⟨F, P, M, T, s4, rfl⟩ := AX hcsa;have l := X.trans t;refine wNl l ?_;refine D_A rfl ?_ ?_
     ·refine AC (BL H _ y.now (p.ext l) (C.ext l) (f.E l O) (Nat.le_trans hNd l.size)) rfl ?_;rintro ub D ⟨Q, n⟩;have n := n.lt;have B := Q.size;obtain ⟨csb, rfl, N, -⟩ := n.cells;obtain ⟨E, Z, j, z, G, rfl⟩ := AX N;have m := l.trans Q;refine wNl m ?_;refine D_E rfl ?_;refine AQ (L := zero5) (fun V4 K => ?_);have z4 := K.size;have g := K.E;have r := m.trans g;refine wNl r ?_;exact leaf (I.heap.size, D.heap.size, F, P, M, T, s4, E, Z, j, z, G) _ _ ag ⟨r, by simp only; omega, by simp only; omega, by simp only; omega, (((i.D.E t O).E Q O).E g O), K.D, (((s.ext Q).ext g).mono fun b S => by simp only; omega), ((n.ext g).mono fun b S => by simp only; omega)⟩
     ·refine D_E rfl ?_;refine AQ (L := zero5) (fun D K => ?_);have B := K.size;have Q := K.E;have m := l.trans Q;refine wNl m ?_;refine D_E rfl ?_;refine AC (BL D _ y.now (p.ext m) (C.ext m) (f.E m O) (Nat.le_trans hNd m.size)) rfl ?_;rintro ub V4 ⟨g, n⟩;have n := n.lt;have z4 := g.size;obtain ⟨csb, rfl, N, -⟩ := n.cells;obtain ⟨E, Z, j, z, G, rfl⟩ := AX N;have r := m.trans g;refine wNl r ?_;exact leaf (I.heap.size, H.heap.size, F, P, M, T, s4, E, Z, j, z, G) _ _ ag ⟨r, by simp only; omega, by simp only; omega, by simp only; omega, (((i.D.E t O).E Q O).E g O), (K.D.E g O), (((s.ext Q).ext g).mono fun b S => by simp only; omega), (n.mono fun b S => by simp only; omega)⟩
    ·refine D_E rfl ?_;refine AQ (L := zero5) (fun H K => ?_);have z2 := K.size;have t := K.E;have l := X.trans t;refine wNl l ?_;refine D_E rfl ?_;refine AC (BL H _ y.first (a7.ext l) (C.ext l) (f.E l O) (Nat.le_trans hNd l.size)) rfl ?_;rintro ua D ⟨Q, s⟩;have s := s.lt;have B := Q.size;obtain ⟨csa, rfl, hcsa, -⟩ := s.cells;obtain ⟨F, P, M, T, s4, rfl⟩ := AX hcsa;have m := l.trans Q;refine wNl m ?_;refine D_E rfl ?_;refine AC (BL D _ y.now (p.ext m) (C.ext m) (f.E m O) (Nat.le_trans hNd m.size)) rfl ?_;rintro ub V4 ⟨g, n⟩;have n := n.lt;have z4 := g.size;obtain ⟨csb, rfl, N, -⟩ := n.cells;obtain ⟨E, Z, j, z, G, rfl⟩ := AX N;have r := m.trans g;refine wNl r ?_;exact leaf (I.heap.size, V1.heap.size, F, P, M, T, s4, E, Z, j, z, G) _ _ ag ⟨r, by simp only; omega, by simp only; omega, by simp only; omega, (((i.D.E t O).E Q O).E g O), ((K.D.E Q O).E g O), ((s.ext g).mono fun b S => by simp only; omega), (n.mono fun b S => by simp only; omega)⟩
   ·refine D_E rfl ?_;refine AQ (L := zero5) (fun V1 K => ?_);have z1 := K.size;have j1 := K.E;have X := k0.trans j1;refine wNl X ?_;refine D_A rfl ?_ ?_
    ·refine AC (BL V1 _ y.first (a7.ext X) (C.ext X) (f.E X O) (Nat.le_trans hNd X.size)) rfl ?_;rintro ua H ⟨t, s⟩;have s := s.lt;have z2 := t.size;obtain ⟨csa, rfl, hcsa, -⟩ := s.cells;obtain ⟨F, P, M, T, s4, rfl⟩ := AX hcsa;have l := X.trans t;refine wNl l ?_;refine D_A rfl ?_ ?_
     ·refine AC (BL H _ y.now (p.ext l) (C.ext l) (f.E l O) (Nat.le_trans hNd l.size)) rfl ?_;rintro ub D ⟨Q, n⟩;have n := n.lt;have B := Q.size;obtain ⟨csb, rfl, N, -⟩ := n.cells;obtain ⟨E, Z, j, z, G, rfl⟩ := AX N;have m := l.trans Q;refine wNl m ?_;refine D_E rfl ?_;refine AQ (L := zero5) (fun V4 i => ?_);have z4 := i.size;have g := i.E;have r := m.trans g;refine wNl r ?_;exact leaf (D.heap.size, I.heap.size, F, P, M, T, s4, E, Z, j, z, G) _ _ ag ⟨r, by simp only; omega, by simp only; omega, by simp only; omega, i.D, (((K.D.E t O).E Q O).E g O), (((s.ext Q).ext g).mono fun b S => by simp only; omega), ((n.ext g).mono fun b S => by simp only; omega)⟩
     ·refine D_E rfl ?_;refine AQ (L := zero5) (fun D i => ?_);have B := i.size;have Q := i.E;have m := l.trans Q;refine wNl m ?_;refine D_E rfl ?_;refine AC (BL D _ y.now (p.ext m) (C.ext m) (f.E m O) (Nat.le_trans hNd m.size)) rfl ?_;rintro ub V4 ⟨g, n⟩;have n := n.lt;have z4 := g.size;obtain ⟨csb, rfl, N, -⟩ := n.cells;obtain ⟨E, Z, j, z, G, rfl⟩ := AX N;have r := m.trans g;refine wNl r ?_;exact leaf (H.heap.size, I.heap.size, F, P, M, T, s4, E, Z, j, z, G) _ _ ag ⟨r, by simp only; omega, by simp only; omega, by simp only; omega, (i.D.E g O), (((K.D.E t O).E Q O).E g O), (((s.ext Q).ext g).mono fun b S => by simp only; omega), (n.mono fun b S => by simp only; omega)⟩
    ·refine D_E rfl ?_;refine AQ (L := zero5) (fun H i => ?_);have z2 := i.size;have t := i.E;have l := X.trans t;refine wNl l ?_;refine D_E rfl ?_;refine AC (BL H _ y.first (a7.ext l) (C.ext l) (f.E l O) (Nat.le_trans hNd l.size)) rfl ?_;rintro ua D ⟨Q, s⟩;have s := s.lt;have B := Q.size;obtain ⟨csa, rfl, hcsa, -⟩ := s.cells;obtain ⟨F, P, M, T, s4, rfl⟩ := AX hcsa;have m := l.trans Q;refine wNl m ?_;refine D_E rfl ?_;refine AC (BL D _ y.now (p.ext m) (C.ext m) (f.E m O) (Nat.le_trans hNd m.size)) rfl ?_;rintro ub V4 ⟨g, n⟩;have n := n.lt;have z4 := g.size;obtain ⟨csb, rfl, N, -⟩ := n.cells;obtain ⟨E, Z, j, z, G, rfl⟩ := AX N;have r := m.trans g;refine wNl r ?_;exact leaf (V1.heap.size, I.heap.size, F, P, M, T, s4, E, Z, j, z, G) _ _ ag ⟨r, by simp only; omega, by simp only; omega, by simp only; omega, ((i.D.E Q O).E g O), (((K.D.E t O).E Q O).E g O), ((s.ext g).mono fun b S => by simp only; omega), (n.mono fun b S => by simp only; omega)⟩
 rintro ⟨c3, c4, F, P, M, T, s4, E, Z, j, z, G⟩ f' V ⟨eV, h3, h4, d3, E3, E4, fa, fb⟩;simp only at h3 h4 d3 E3 E4 fa fb;have zV := eV.size;have E2 := c7.E eV O;obtain rfl := fa.op0;obtain rfl := fb.op0;refine D_E rfl ?_;refine AE (cs := [iV (BV y.first).op, P, M, T, s4]) rfl rfl rfl (fmlR.one ⟨rfl, fa⟩) E3 Dp (fun V1 p1 => ?_);have F3 : Blk V1 c3 36 [iV (BV y.first).op, P, M, T, s4] := p1.D;have x1 : Ext I V1 := eV.E p1.E Dl;refine wNl x1 ?_;refine D_E rfl ?_;refine AE (cs := [iV (BV y.now).op, Z, j, z, G]) rfl rfl rfl (fmlR.one ⟨rfl, fb⟩) (E4.E p1.E Dl) Dp (fun H p2 => ?_);have F4 : Blk H c4 36 [iV (BV y.now).op, Z, j, z, G] := p2.D;have x2 : Ext I H := x1.E p2.E Dl;replace F3 := F3.E p2.E Dl;have d0 := (fa.E p1.E (fun b S A => by rw [List.mem_singleton] at A; exact S.2.1 A)).E p2.E (fun b S A => by rw [List.mem_singleton] at A; exact S.2.2 A);have d1 := (fb.E p1.E (fun b S A => by rw [List.mem_singleton] at A; exact S.2.1 A)).E p2.E (fun b S A => by rw [List.mem_singleton] at A; exact S.2.2 A);have F2 := (E2.E p1.E Dl).E p2.E Dl;have y2 := a6.trans x2;refine wNl x2 ?_;have f0 : ∀ {W : World}, pendF y.first y.now = Ae → Ext H W → True := fun _ _ => trivial
 unfold pendF;by_cases c1 : (BV y.first).op = 0
 ·rw [if_pos (.inl c1)];exact FF
 by_cases c2 : (BV y.now).op = 0
 ·rw [if_pos (.inr c2)];exact FF
 rw [if_neg (fun h => h.elim c1 c2)];have sA := can_sz c1;have sB := can_sz c2;refine go ?_;refine AC (conj_ok H _ (BV y.first) (d0.mono fun _ _ => trivial)) rfl ?_;rintro u3 D ⟨Q, hA⟩;have y3 := y2.trans Q;obtain ⟨ca, cc, rfl, _⟩ := hA.len;have d4 := conj_len (BV y.first);have b5 : ∀ c ∈ conjF (BV y.first), szF c ≤ 400 := fun c hc => Nat.le_trans (conj_sz hc) sA;unfold pendL;generalize conjF (BV y.first) = LA at hA d4 b5 ⊢;refine go ?_;refine Ah (α := Nat × Value) (fun u => [(2, pt w1.heap.size), (4, pt c4), (5, u.2), (28, .slice ca LA.length cc), (29, iV (LA.length : Int)), (30, iV (u.1 : Int))]) (fun u W => u.1 ≤ LA.length ∧ Ext D W ∧ Acc AZ fmlR 36 5 D.heap.size W u.2 ((LA.take u.1).map C9)) (fun u => LA.length - u.1) (0, .slice none 0 0) ag ⟨by simp, Ext.refl _, ⟨[], ⟨rfl, .inl ⟨rfl, rfl⟩⟩, RsAt.nil⟩⟩ ?_;rintro ⟨k, v⟩ W fr ⟨hk, kW, hac⟩;simp only at hk kW hac;refine go ?_;by_cases hlt : k < LA.length
 ·obtain ⟨x, hx⟩ := gl hlt;obtain ⟨b, o, d, rfl, S, hd, hfx⟩ := hA.at (sz := 5) rfl hx;obtain ⟨g0, g1, g2, g3, g4, rfl⟩ := AX hfx.1;have b7 := hd.E kW O;refine go ?_;refine AR (L := [g0, g1, g2, g3, g4]) rfl rfl b7 ?_;refine An (cs := [g0, g1, g2, g3, g4]) rfl rfl Dn (fmlR.one hfx) (fun w5 n5 => ?_);have B5 := n5.D;have e5 := kW.trans n5.E;have z5 := n5.size;refine go ?_;refine AC (shapeW_ok w5 _ x (hfx.2.ext e5) (Nat.le_trans (b5 x (List.mem_of_getElem? hx)) U)) rfl ?_;rintro q w6 ⟨k6, f6⟩;obtain ⟨cs, rfl, a9, b8⟩ := f6.cells;obtain ⟨m0, m1, m2, m3, m4, rfl⟩ := AX a9;refine AL (out := [m0, m1, m2, m3, m4]) rfl U Dr (fun w7 n7 => ?_);obtain ⟨LL, oA, fA⟩ := hac.ex;have k57 := (n5.E.trans k6).trans n7.E;have z57 := k57.size;have zW := kW.size;have e1 : ((LA.take k).map C9).length = k := by rw [List.length_map, List.length_take]; omega
  refine Ak (ok := AZ) (v := v) rfl rfl (Aa oA k57) (sl_new n7) U rfl rfl b8 U U U (fun v8 w8 a8 => ?_);have hX : ∀ y ∈ v.ownBlock.toList, D.heap.size ≤ y ∧ y < W.heap.size := fun y hy => Ab oA (Option.mem_toList.1 hy);have hP := Acc.push (R := fmlR) oA fA k57 (c := [m0, m1, m2, m3, m4]) (a := C9 x) ⟨rfl, (f6.ext n7.E).mono fun b S => ⟨trivial, fun e => by have := Ab oA e; omega⟩⟩ a8;refine go ?_;refine ⟨(k + 1, v8), ⟨rfl, ag, ⟨by simp only; omega, (kW.trans k57).E a8.E (fun y hy => (hX y hy).1), ?_⟩⟩, by simp only; omega⟩;simp only;have htk : LA.take (k + 1) = LA.take k ++ [x] := by rw [List.take_add_one, hx]; rfl
  rw [htk, List.map_append];exact hP
 ·obtain rfl : k = LA.length := by omega
  rw [List.take_length] at hac;have G4 := (F4.E Q O).E kW O;have d2 := (d1.ext Q).ext kW;refine go ?_;refine AC (conj_ok W _ (BV y.now) (d2.mono fun _ _ => trivial)) rfl ?_;rintro u4 V4 ⟨g, hB⟩;have c6 := kW.trans g;obtain ⟨da, dc, rfl, _⟩ := hB.len;obtain ⟨d5, d6⟩ := conj_len (BV y.now);have hBz : ∀ c ∈ conjF (BV y.now), szF c ≤ 400 := fun c hc => Nat.le_trans (conj_sz hc) sB;generalize conjF (BV y.now) = LB at hB d5 d6 hBz ⊢;have b6 := (hac.ext g).sl;obtain ⟨na, i, rfl, _⟩ := b6.len
  have hKs : ∀ c ∈ LA.map C9, szF c ≤ 1000000 := fun c hc => by
   obtain ⟨x, hx, rfl⟩ := List.mem_map.1 hc;have := b5 x hx;rw [shp_sz]; omega
  have d7 : (LA.map C9).length ≤ 400 := by rw [List.length_map]; omega
  generalize LA.map C9 = KN at b6 hKs d7 ⊢;refine go ?_;refine Ah (α := Nat × Value) (fun u => [(2, pt w1.heap.size), (5, .slice na KN.length i), (8, u.2), (41, .slice da LB.length dc), (42, iV (LB.length : Int)), (43, iV (u.1 : Int))]) (fun u W => u.1 ≤ LB.length ∧ Ext V4 W ∧ Acc AZ fmlR 36 5 V4.heap.size W u.2 ((LB.take u.1).filter (pendB KN))) (fun u => LB.length - u.1) (0, .slice none 0 0) ag ⟨by simp, Ext.refl _, ⟨[], ⟨rfl, .inl ⟨rfl, rfl⟩⟩, RsAt.nil⟩⟩ ?_;rintro ⟨k, v⟩ W2 fr2 ⟨hk, a5, hac2⟩;simp only at hk a5 hac2;refine go ?_;by_cases e3 : k < LB.length
  ·obtain ⟨x, hx⟩ := gl e3;obtain ⟨b, o, d, rfl, S, hd, hfx⟩ := hB.at (sz := 5) rfl hx;obtain ⟨g0, g1, g2, g3, g4, rfl⟩ := AX hfx.1;have b7 := hd.E a5 O;have htk : LB.take (k + 1) = LB.take k ++ [x] := by rw [List.take_add_one, hx]; rfl
   refine go ?_;refine AR (L := [g0, g1, g2, g3, g4]) rfl rfl b7 ?_;refine An (cs := [g0, g1, g2, g3, g4]) rfl rfl Dn (fmlR.one hfx) (fun w5 n5 => ?_);have B5 := n5.D;have e5 := a5.trans n5.E;have z5 := n5.size;refine go ?_;refine AC (shapeW_ok w5 _ x (hfx.2.ext e5) (Nat.le_trans (hBz x (List.mem_of_getElem? hx)) U)) rfl ?_;rintro q w6 ⟨k6, f6⟩;obtain ⟨cs, rfl, a9, b8⟩ := f6.cells;obtain ⟨m0, m1, m2, m3, m4, rfl⟩ := AX a9;refine An (cs := [m0, m1, m2, m3, m4]) rfl rfl Dn b8 (fun w7 n7 => ?_);have f7 := f6.lt.ext n7.E;have e7 := (e5.trans k6).trans n7.E;have c8 := (B5.E k6 O).E n7.E O;have B7 := n7.D;refine go ?_;refine AC (hasF_ok w7 na i KN 343 [] [pt w6.heap.size] (fun kf => decide (BO kf (C9 x) = 0)) (b6.ext e7) U (fun Wc dd kf e0 eW d8 => ?_)) rfl ?_
   ·have f8 := f7.lt.ext eW;exact same1_ok Wc dd kf w6.heap.size (C9 x) _ _ d8 (B7.E eW O) ⟨rfl, f8⟩ (fun b S => (S.1.1.2.eq (n7.E.block b S.1.2 O)).eq (eW.block b S.2 O)) (hKs kf e0)
   rintro _ w8 ⟨rfl, k8⟩;have e8 := e7.trans k8;have B58 := c8.E k8 O;have z8 := e8.size;have z58 := ((n5.E.trans k6).trans n7.E).trans k8;have f4 := z58.size;obtain ⟨LL, oA, fA⟩ := hac2.ex;have hX : ∀ y ∈ v.ownBlock.toList, V4.heap.size ≤ y ∧ y < W2.heap.size := fun y hy => Ab oA (Option.mem_toList.1 hy);have e1 : ((LB.take k).filter (pendB KN)).length ≤ 400 := by have := List.length_filter_le (pendB KN) (LB.take k); rw [List.length_take] at this; omega
   cases hp : KN.any (fun kf => decide (BO kf (C9 x) = 0)) with
   | true =>
    have b9 : pendB KN x = false := by unfold pendB; rw [hp]; rfl
    refine go ?_;refine ⟨(k + 1, v), ⟨rfl, ag, ⟨by simp only; omega, a5.trans z58, ?_⟩⟩, by simp only; omega⟩;simp only;rw [htk, List.filter_append];simp only [List.filter_cons, b9, List.filter_nil, List.append_nil, Bool.false_eq_true, if_false];exact hac2.ext z58
   | false =>
    have b9 : pendB KN x = true := by unfold pendB; rw [hp]; rfl
    refine go ?_;refine AL (out := [g0, g1, g2, g3, g4]) rfl U Dr (fun w9 n9 => ?_);have z9 := n9.size;have k9 := z58.trans n9.E;refine Ak (ok := AZ) (v := v) rfl rfl (Aa oA k9) (sl_new n9) U rfl rfl (fmlR.one hfx) U U U (fun v8 w10 a8 => ?_);have hP := Acc.push (R := fmlR) oA fA k9 (c := [g0, g1, g2, g3, g4]) (a := x) ⟨rfl, ((hfx.2.lt.ext a5).ext k9).mono fun b S => ⟨trivial, fun e => by have := Ab oA e; omega⟩⟩ a8;refine go ?_;refine ⟨(k + 1, v8), ⟨rfl, ag, ⟨by simp only; omega, (a5.trans k9).E a8.E (fun y hy => (hX y hy).1), ?_⟩⟩, by simp only; omega⟩;simp only;rw [htk, List.filter_append];simp only [List.filter_cons, b9, List.filter_nil, if_true];exact hP
  ·obtain rfl : k = LB.length := by omega
   rw [List.take_length] at hac2;have y4 := (y3.trans c6).trans a5;have hS := hac2.sl;obtain ⟨c9, fc, rfl, _⟩ := hS.len;have d9 : szL (LB.filter (pendB KN)) ≤ 1000 := Nat.le_trans (szL_filter _ LB) U;have H2 := ((F2.E Q O).E c6 O).E a5 O;refine go ?_;refine AC (andor_ok W2 5 c9 fc (LB.filter (pendB KN)) hS (.inr d9) (hG.ext y4) (hK.E y4 O) (Nat.le_trans hN y4.size)).1 rfl ?_;rintro u10 w10 ⟨c5, f10⟩;obtain ⟨cs, rfl, a9, e4⟩ := f10.cells;obtain ⟨r0, r1, r2, r3, r4, rfl⟩ := AX a9;have h1 := H2.lt;refine AE (cs := [r0, r1, r2, r3, r4]) rfl rfl rfl e4 (H2.E c5 O) Dp (fun w11 c0 => ?_);have e6 := y4.trans c5;have z4 := y4.size;refine go ?_;exact AT rfl rfl rfl c0.D.cells ⟨e6.E c0.E Dl, (f10.E c0.E (fun b S A => by rw [List.mem_singleton] at A; have := S.1; omega)).mono (ok' := fun b => w.heap.size ≤ b) fun b S => by have := S.1; omega⟩
def fx3 (y : Dty) : List (Nat × Value) := [(0, AI y.req.part), (1, AI y.req.name), (2, iV y.req.kind), (8, iV y.since)]
theorem ocopied_ok (w : World) (d : LV) (Y : Dty) (l : Nat → Prop) (hd : dtyR.fits l w d Y) (hz : szF Y.req.formula + szF Y.first + szF Y.now ≤ 1000000) :
  Fn Zp 38 [.agg d.toArray] w fun u w' => ∃ e : LV, u = .agg e.toArray ∧ Ext w w' ∧ dtyR.fits (fun b => l b ∨ w.heap.size ≤ b) w' e Y := by
 have d5 := dtyR.lt hd;have f5 := dtyR.one hd;obtain ⟨q0, q1, q2, q3, q4, a0, a1, a2, a3, a4, b0, b1, b2, b3, b4, rfl, f1, f2, f3⟩ := dty19 d5;refine AG Tryz.func38 rfl Tryz.ntmps38 (go ?_);refine Aj (L := [AI Y.req.part, AI Y.req.name, iV Y.req.kind, q0, q1, q2, q3, q4, iV Y.since, a0, a1, a2, a3, a4, b0, b1, b2, b3, b4]) rfl (fun Q n1 => ?_);refine AQ (fun s n2 => ?_);have z1 := n1.size;have z2 := n2.size;have kk := n1.E.trans n2.E;have B1 := n1.D.E n2.E O;obtain ⟨G, e9, b7⟩ : ∃ G : LV, Blk s Q.heap.size 40 G ∧ G.length = 19 := ⟨_, n2.D, rfl⟩;refine go ?_;refine Ce (out := [.pointer (some ⟨w.heap.size, 0 + 0 + 3, none⟩), .pointer (some ⟨w.heap.size, 0 + 9, none⟩), .pointer (some ⟨w.heap.size, 0 + 14, none⟩)]) rfl U rfl rfl (fun w3 n3 => ?_);have z3 := n3.size;have k3 := kk.trans n3.E;have M := B1.E n3.E O
 have j : Cpy l w.heap.size s.heap.size Q.heap.size 40 G (fx3 Y) [(w.heap.size, 3, Y.req.formula), (w.heap.size, 9, Y.first), (w.heap.size, 14, Y.now)] [(w.heap.size, 3, Y.req.formula), (w.heap.size, 9, Y.first), (w.heap.size, 14, Y.now)] w3 (.slice (sm s.heap.size) 3 3) := by
  have A : ∀ b, l b ∧ b < w.heap.size → cok l w.heap.size Q.heap.size (Value.slice (sm s.heap.size) 3 3) b := fun b S => ⟨.inl S.1, by omega, by simp [Value.ownBlock]; omega⟩;have D : cok l w.heap.size Q.heap.size (Value.slice (sm s.heap.size) 3 3) w.heap.size := ⟨.inr (Nat.le_refl _), by omega, by simp [Value.ownBlock]; omega⟩;have p1 : PF (cok l w.heap.size Q.heap.size (Value.slice (sm s.heap.size) 3 3)) w3 w.heap.size 3 Y.req.formula := ⟨D, _, rfl, (by have := M.cells.part 3 5; simpa using this), (f1.ext k3).mono A⟩;have p2 : PF (cok l w.heap.size Q.heap.size (Value.slice (sm s.heap.size) 3 3)) w3 w.heap.size 9 Y.first := ⟨D, _, rfl, (by have := M.cells.part 9 5; simpa using this), (f2.ext k3).mono A⟩
  have p3 : PF (cok l w.heap.size Q.heap.size (Value.slice (sm s.heap.size) 3 3)) w3 w.heap.size 14 Y.now := ⟨D, _, rfl, (by have := M.cells.part 14 5; simpa using this), (f3.ext k3).mono A⟩
  have hin : ∀ p ∈ [(w.heap.size, 3, Y.req.formula), (w.heap.size, 9, Y.first), (w.heap.size, 14, Y.now)], p.1 = w.heap.size ∧ PF (cok l w.heap.size Q.heap.size (Value.slice (sm s.heap.size) 3 3)) w3 p.1 p.2.1 p.2.2 := by
   intro p hp;simp at hp;rcases hp with rfl | rfl | rfl
   ·exact ⟨rfl, p1⟩
   ·exact ⟨rfl, p2⟩
   ·exact ⟨rfl, p3⟩
  refine ⟨n3.own (n := 3) (size := 1) (B := s.heap.size) rfl Dq (Nat.le_refl _), fun p hp' => (hin p (hp'.elim id id)).2, fun p hp' => ?_, e9.E n3.E O, by omega, fun q H => ?_, fun q H a n c e => ?_⟩
  ·rw [(hin p hp').1]; exact ⟨Nat.le_refl _, _, _, M⟩
  ·simp [fx3] at H;rcases H with rfl | rfl | rfl | rfl <;> exact M.cell rfl
  ·simp [fx3] at H;rcases H with rfl | rfl | rfl | rfl <;> cases e
 have e8 : wtP [(w.heap.size, 3, Y.req.formula), (w.heap.size, 9, Y.first), (w.heap.size, 14, Y.now)] ≤ 1000000 := by simp [wtP]; omega
 refine go ?_
 refine Ah (α := List Pn × List Pn × Value) (fun y => [(1, pt w.heap.size), (2, pt Q.heap.size), (3, y.2.2)])
  (fun y W => Ext w W ∧ (∀ p ∈ [(w.heap.size, 3, Y.req.formula), (w.heap.size, 9, Y.first), (w.heap.size, 14, Y.now)], p ∈ y.2.1) ∧ wtP y.1 ≤ 1000000 ∧ Cpy l w.heap.size s.heap.size Q.heap.size 40 G (fx3 Y) y.2.1 y.1 W y.2.2) (fun y => wtP y.1) ([(w.heap.size, 3, Y.req.formula), (w.heap.size, 9, Y.first), (w.heap.size, 14, Y.now)], [(w.heap.size, 3, Y.req.formula), (w.heap.size, 9, Y.first), (w.heap.size, 14, Y.now)], .slice (sm s.heap.size) 3 3) ag ⟨k3, fun p h => h, e8, j⟩ ?_
 rintro ⟨ps, rs, v⟩ W fr ⟨kW, D, hw, j⟩;simp only at D hw j;have ho := j.own;obtain ⟨va, vc, rfl, f8, f9, g0, e6⟩ := AV (ok := AZ) ho fun _ _ => trivial;refine go ?_;by_cases h0 : ps ≠ []
 ·obtain ⟨f, p, rfl⟩ := last_of h0;have hl : (f ++ [p]).length = f.length + 1 := by simp
  obtain ⟨a2, cap2, X, hP, hA, T, L, S⟩ := j.pop;rw [hl] at X;cases X;obtain ⟨I, P, rfl, -, e7⟩ := e6.resolve_left U;have f6 : W.cell? ⟨I, P + f.length, none⟩ = some (ptrV p) := e7 _ _ O;have hj : (((f ++ [p]).length : Nat) : Int) - 1 = (f.length : Int) := by omega
  obtain ⟨g, o, x⟩ := p;have a6 := hP.all (g, o, x) (.inl O);simp only at a6 hA S;obtain ⟨b5, d, hd, hcd, d9⟩ := id a6;obtain ⟨f0, X, L2, hS2, a5, h52, b9⟩ := d9.form;obtain ⟨d0, d1, d2, d3, d4, rfl⟩ := AX hd;simp only [Value.agg.injEq, List.toArray_eq_iff, List.cons.injEq, and_true] at X;obtain ⟨rfl, rfl, rfl, rfl, rfl⟩ := X;obtain ⟨aa, cc, rfl, r1, r2, r3, r4⟩ := id hS2;have a7 : W.cell? ⟨g, o + 4, none⟩ = some (.slice aa x.args.length cc) := hcd 4 _ rfl;have hF2 : FsAt (cok l w.heap.size Q.heap.size (Value.slice (some ⟨I, P, none⟩) f.length vc)) W L2 x.args := ⟨a5, h52, b9⟩;have g4 : wtP f + szF x = wtP (f ++ [(g, o, x)]) := by rw [wtP_app]; simp [wtP]
  have g6 := Bd x;have g7 := Bv x.args;have f7 := wtP_len f;refine go ?_;have ht : ((((f ++ [(g, o, x)]).length : Nat) : Int) - 1).toNat = f.length := by omega
  rw [ht];refine AC (clone_ok W aa cc x.args L2 _ hS2 hF2 U) rfl ?_;rintro u w4 ⟨R, o4⟩;have r : Sl (fun b => W.heap.size ≤ b) w4 u x.args.length L2.flatten := AV o4 fun b S => (Ab o4 S).1;obtain ⟨N, uc, rfl, u1, u2, u3, u4⟩ := id r;have c4 := hP.ext R;have hb4 := S.E R O;have g1 : (Value.slice (some ⟨I, P, none⟩) f.length vc).ownBlock ≠ some Q.heap.size := fun e => by have := (Ab hP.own e).1; omega
  have hgW := S.lt;have zW := kW.size;have g2 : Q.heap.size < W.heap.size := j.D.lt;have hLg := S.un a7;have c3 := (List.getElem?_eq_some_iff.1 hLg).1;refine go ?_;refine AN (v := .slice N x.args.length uc) rfl rfl rfl hb4 c3 (fun w5 p5 => ?_)
  have hcp : ∀ (n : Nat) (L : List (LV)), L.flatten.length = n * 5 → Sl (cok l w.heap.size Q.heap.size (Value.slice (some ⟨I, P, none⟩) f.length vc)) w4 (.slice aa x.args.length cc) n L.flatten → Sl (cok l w.heap.size Q.heap.size (Value.slice (some ⟨I, P, none⟩) f.length vc)) w5 (.slice N x.args.length uc) n L.flatten := fun n L hL h => by
   refine cpy_of (hS2.ext R) (by rw [CC 5 L2 h52, a5]) ?_ n L hL h;exact (r.E p5.E (fun b S A => by rw [List.mem_singleton] at A; omega)).mono fun b S => ⟨.inr U, by omega, fun e => by have := (Ab hP.own e).2; omega⟩
  have hR := Rtg.of_put hb4 (R.cell a7 O) ⟨_, _, _, rfl⟩ p5 hcp;have c5 := c4.store hR p5 b5.2.1 b5.2.2;have c9 : w5.cell? ⟨g, o + 4, none⟩ = some (.slice N x.args.length uc) := hR.new;have e5 : Ext w w5 := (kW.trans R).E p5.E Dl
  obtain ⟨z, E, b6⟩ : ∃ z E, 0 < x.args.length → N = some ⟨z, E, none⟩ ∧ w.heap.size ≤ z ∧ ∃ T L, Blk w5 z T L := by
   by_cases g5 : x.args.length = 0
   ·exact ⟨0, 0, fun h => by omega⟩
   ·rcases o4.2 with ⟨_, h⟩ | ⟨g', cap', b8, e, h1, h2, -⟩
    ·omega
    ·cases e;have e2 : g' ≠ g := fun e => by omega
     have c7 : Blk w4 g' 36 b8.toList := by simpa [Blk] using h2
     exact ⟨g', 0, fun _ => ⟨rfl, by omega, _, _, c7.E p5.E (by simpa using e2)⟩⟩
  refine go ?_
  refine Ah (α := Nat × Value) (fun y => [(1, pt w.heap.size), (2, pt Q.heap.size), (3, y.2), (4, .pointer (some ⟨g, o, none⟩)), (37, iV (x.args.length : Int)), (38, iV (y.1 : Int))])
   (fun y V => y.1 ≤ x.args.length ∧ Ext w V ∧ V.cell? ⟨g, o + 4, none⟩ = some (.slice N x.args.length uc) ∧ (0 < x.args.length → ∃ T L, Blk V z T L) ∧ Cpy l w.heap.size s.heap.size Q.heap.size 40 G (fx3 Y) ((g, o, x) :: rs) (f ++ chP z E 0 (x.args.take y.1)) V y.2) (fun y => x.args.length - y.1) (0, .slice (some ⟨I, P, none⟩) f.length vc) ag ⟨by simp, e5, c9, fun h => (b6 h).2.2, by simpa [chP] using c5⟩ ?_
  rintro ⟨k, v⟩ V fr ⟨hk, kV, hcV, hbV, C⟩;simp only at hk hcV C;refine go ?_;by_cases e1 : k < x.args.length
  ·obtain ⟨y, K⟩ := gl e1;obtain ⟨rfl, e4, -⟩ := b6 U;have hgx := C.all (g, o, x) (.inl O);obtain ⟨g8, g9, e, hch⟩ := hgx.child hcV K;cases e;have e0 := hgx.1.2.2;have huo := hch.1.2.2;refine go ?_;refine Ce (out := [.pointer (some ⟨z, E + k * 5, none⟩)]) rfl U rfl rfl (fun w6 F => ?_);have f4 : (f ++ chP z E 0 (x.args.take k)).length = f.length + k := by rw [List.length_append, chP_len, List.length_take]; omega
   have hX : ∀ y, y ∈ v.ownBlock.toList → v.ownBlock = some y := fun y K => Option.mem_toList.1 K;have z6 := F.size;have zV : s.heap.size ≤ V.heap.size := by have := C.D.lt; omega
   refine Ak (v := v) rfl rfl (Aa C.own F.E) (AV (ok := AZ) (F.own (n := 1) (size := 1) rfl Dq (Nat.le_refl _)) fun _ _ => trivial) U rfl rfl (AU rfl) U U U (fun v8 w8 a8 => ?_);have hCp := C.push (p := (z, E + k * 5, y)) F.E a8 hch ⟨e4, hbV U⟩ fun e => by have := (Ab C.own e).1; omega
   have c6 : ∀ y ∈ v.ownBlock.toList, w.heap.size ≤ y := fun y K => by have := (Ab C.own (hX y K)).1; have := j.ab; omega
   refine go ?_;refine ⟨(k + 1, v8), ⟨rfl, ag, ⟨by simp only; omega, (kV.trans F.E).E a8.E c6, a8.E.cell (F.E.cell hcV O) (fun A => e0 (hX _ A)), fun h => ?_, ?_⟩⟩, by simp only; omega⟩
   ·obtain ⟨T, L, S⟩ := hbV h;exact ⟨T, L, (S.E F.E O).E a8.E fun A => huo (hX _ A)⟩
   ·simp only;have e3 : x.args.take (k + 1) = x.args.take k ++ [y] := by rw [List.take_add_one, K]; rfl
    rw [e3, chP_snoc, List.length_take, Nat.min_eq_left hk, Nat.zero_add, ← List.append_assoc];exact hCp
  ·obtain rfl : k = x.args.length := by omega
   rw [List.take_length] at C;refine go ?_;have g3 : wtP (f ++ chP z E 0 x.args) = wtP f + szL x.args := by rw [wtP_app, chP_wt]
   exact ⟨(f ++ chP z E 0 x.args, (g, o, x) :: rs, v), ⟨rfl, ag, ⟨kV, fun p hp => List.mem_cons_of_mem _ (D p hp), by simp only; omega, C⟩⟩, by simp only; omega⟩
 ·have h0 : ps = [] := Classical.not_not.1 h0;subst h0;have hl : ([] : List Pn).length = 0 := rfl;refine go ?_;obtain ⟨⟨-, -, -⟩, d1, hd1, Z, d6⟩ := j.all (w.heap.size, 3, Y.req.formula) (.inl (D _ O));obtain ⟨⟨-, -, -⟩, d2, hd2, hc2, d7⟩ := j.all (w.heap.size, 9, Y.first) (.inl (D _ O));obtain ⟨⟨-, -, -⟩, d3, hd3, m, d8⟩ := j.all (w.heap.size, 14, Y.now) (.inl (D _ O));obtain ⟨u0, u1, u2, u3, u4, rfl⟩ := AX hd1;obtain ⟨v0, v1, v2, v3, v4, rfl⟩ := AX hd2;obtain ⟨m0, m1, m2, m3, m4, rfl⟩ := AX hd3;have c0 := j.fix (0, AI Y.req.part) (by simp [fx3]);have c1 := j.fix (1, AI Y.req.name) (by simp [fx3]);have c2 := j.fix (2, iV Y.req.kind) (by simp [fx3]);have c8 := j.fix (8, iV Y.since) (by simp [fx3])
  have hcs : Cells W w.heap.size 0 [AI Y.req.part, AI Y.req.name, iV Y.req.kind, u0, u1, u2, u3, u4, iV Y.since, v0, v1, v2, v3, v4, m0, m1, m2, m3, m4] := by
   intro i u r;rw [Nat.zero_add]
   match i, r with
   | 0, r => rw [← Option.some.inj r]; exact c0
   | 1, r => rw [← Option.some.inj r]; exact c1
   | 2, r => rw [← Option.some.inj r]; exact c2
   | 3, r => exact Z 0 u r
   | 4, r => exact Z 1 u r
   | 5, r => exact Z 2 u r
   | 6, r => exact Z 3 u r
   | 7, r => exact Z 4 u r
   | 8, r => rw [← Option.some.inj r]; exact c8
   | 9, r => exact hc2 0 u r
   | 10, r => exact hc2 1 u r
   | 11, r => exact hc2 2 u r
   | 12, r => exact hc2 3 u r
   | 13, r => exact hc2 4 u r
   | 14, r => exact m 0 u r
   | 15, r => exact m 1 u r
   | 16, r => exact m 2 u r
   | 17, r => exact m 3 u r
   | 18, r => exact m 4 u r
   | i + 19, r => simp at r
  have hfit := dty_of (p := Y.req.part) (n := Y.req.name) (k := Y.req.kind) (t := Y.since) d6 d7 d8;refine AR (L := [AI Y.req.part, AI Y.req.name, iV Y.req.kind, u0, u1, u2, u3, u4, iV Y.since, v0, v1, v2, v3, v4, m0, m1, m2, m3, m4]) rfl rfl hcs ?_;refine AE (cs := [AI Y.req.part, AI Y.req.name, iV Y.req.kind, u0, u1, u2, u3, u4, iV Y.since, v0, v1, v2, v3, v4, m0, m1, m2, m3, m4]) rfl rfl rfl (dtyR.one hfit) j.D (by simp [b7]) (fun w9 p9 => ?_);have a9 := p9.D;rw [BN G _ (by rw [b7]; rfl)] at a9;refine go ?_;exact AT rfl rfl rfl a9.cells ⟨_, rfl, kW.E p9.E Dl, dtyR.mono (dtyR.E hfit p9.E (fun b S A => by rw [List.mem_singleton] at A; exact S.2.1 A)) fun b S => S.1⟩
section
attribute [local semireducible] WC AO Bi BH Be Cq DN BU
variable {P : Program} {all : Array Oper} {Z : Fr → DS → List PanicEntry → World → Prop} {K : Fr → DS → World → Prop} {rest : List Oper} {f : Fr} {ds : DS} {w : World} {d : Nat} {ty : TypeId} {pos : String} {af : Array Edge}
def nptr : TypeDesc → Bool
 | .pointer _ => false
 | _ => true
class MethT (P : Program) (T : TypeId) (name : String) (g : outParam FuncId) : Prop where
 out : ((P.info? T).bind fun i => (i.methods.find? (·.name == name)).map fun m => (m.path, m.func)) = some (#[], some (g, false))
 und : ∃ d, P.underlying T = some d ∧ nptr d = true
theorem meth_row {T : TypeId} {name : String} {g : FuncId} [hT : MethT P T name g] : ∃ i m, P.info? T = some i ∧ i.methods.find? (·.name == name) = some m ∧ m.path = #[] ∧ m.func = some (g, false) := by
 have h := hT.out;cases hi : P.info? T with
 | none => rw [hi] at h; cases h
 | some i =>
  rw [hi] at h;simp only [Option.bind_some] at h;cases hm : i.methods.find? (·.name == name) with
  | none => rw [hm] at h; cases h
  | some m =>
   rw [hm] at h;simp only [Option.map_some, Option.some.injEq, Prod.mk.injEq] at h;exact ⟨i, m, rfl, hm, h.1, h.2⟩
theorem run_receiver {T : TypeId} {v : Value} {o : Option String} {W : TypeDesc} (X : P.underlying T = some W) (a : nptr W = true) : (receiverAt T (.val v) false o).run P w = .ok v w := by
 simp only [receiverAt, Sem.run_bind, run_underlying X, Result.andThen_ok];cases W <;> first | (cases a; done) | simp [Place.get]
theorem run_method {T : TypeId} {name : String} {g : FuncId} {v : Value} [hT : MethT P T name g] : (method (P.types.size + Made.depth) T v name).run P w = .ok (g, v) w := by
 obtain ⟨i, m, X, W, R, a⟩ := meth_row (P := P) (T := T) (name := name) (g := g);obtain ⟨h, b, c⟩ := hT.und;rw [show P.types.size + Made.depth = (P.types.size + 99) + 1 from rfl];generalize P.types.size + 99 = n;have e : (typeInfo T).run P w = .ok i w := by simp [typeInfo, X]
 have x : (follow ([] : List FieldStep) T (.val v)).run P w = .ok (T, .val v) w := by simp [follow]
 have z := fun o => run_receiver (P := P) (w := w) (v := v) (o := o) b c;unfold method;simp only [Sem.run_bind, e, Result.andThen_ok, W, R, a];simp only [x, Result.andThen_ok, z, Sem.run_pure]
theorem W_invoke {T : TypeId} {name : String} {g : FuncId} {v : Value} {x : Operand} {xs : List Operand} {C : Array TypeId} {vs : LV} {R : Value → World → Prop} [hT : MethT P T name g] [hg : AD P g]
  (V : ev f x = .iface T v) (b : Fn P g (v :: vs) w R) (H : evL f xs = vs) (h : ∀ v w', R v w' → AO P all Z K rest (upd f d v) ds w') :
  AO P all Z K (⟨some d, .call ⟨.invoke x name, xs.toArray, C⟩, ty, pos, af, none⟩ :: rest) f ds w := by
 obtain ⟨q, X, W, a⟩ := hg.out
 have B : (execOp (ev f) ⟨some d, .call ⟨.invoke x name, xs.toArray, C⟩, ty, pos, af, none⟩).run P w = .ok (.enter g (v :: vs).toArray) w := by
  rw [evL_map] at H;simp only [execOp, resolve, V, Sem.run_bind, Sem.run_pure, Result.andThen_ok, invoke, callMethod];simp [run_method (P := P) (T := T) (name := name) (g := g), callFunc, program, Sem.run, X, W, a, ← H];exact List.take_of_length_le O
 unfold AO;simp only [A7, if_true, BU, B];refine Calls.mono b fun e w' F => ?_;cases e with
 | returned v => exact h v w' F
 | panicked ch => exact F.elim
 | outgrown => exact F
theorem W_someeql {r o a : TypeId} {p : Value} {x : Operand} [hT : IfT P r] (V : ev f x = .iface a p) (h : AO P all Z K rest (upd f d (.bool false)) ds w) :
  AO P all Z K (⟨some d, .binOp .eql r x (.const .nilIface) o, ty, pos, af, none⟩ :: rest) f ds w := by
 obtain ⟨T, X⟩ := hT.out;refine Aq rfl ?_ h
 have H : (Op.equalIn Op.maxDepth r (.iface a p) .nilIface).run P w = .ok false w := by
  rw [show Op.maxDepth = 9999 + 1 from rfl];generalize 9999 = n;unfold Op.equalIn;simp [run_underlying X]
 have b : ev f (.const .nilIface) = .nilIface := rfl;simp [execOp, V, b, eqGuard, binOp, Op.equal, H]
theorem W_makeMeth {name : String} {n : List Operand} {v1 : LV} (X : evL f n = v1) (h : AO P all Z K rest (upd f d (.func (.method name) v1.toArray #[])) ds w) :
  AO P all Z K (⟨some d, .makeFunc (.method name) n.toArray #[], ty, pos, af, none⟩ :: rest) f ds w := by
 refine Aq rfl ?_ h;rw [evL_map] at X;simp [execOp, Instr.makeFunc, ← X]
theorem run_nilAhead {T : TypeId} {name : String} {g : FuncId} {v : Value} [hT : MethT P T name g] : (nilAhead (P.types.size + Made.depth) T v name).run P w = .ok (some false) w := by
 obtain ⟨i, m, X, a, R, b⟩ := meth_row (P := P) (T := T) (name := name) (g := g);obtain ⟨W, c, h⟩ := hT.und;rw [show P.types.size + Made.depth = (P.types.size + 99) + 1 from rfl];generalize P.types.size + 99 = n;have e : (typeInfo T).run P w = .ok i w := by simp [typeInfo, X]
 unfold nilAhead;simp only [Sem.run_bind, e, Result.andThen_ok, a, R, b];simp only [followBlind, Sem.run_pure, Result.andThen_ok];simp only [Sem.run_bind, run_underlying c, Result.andThen_ok];cases W <;> first | (cases h; done) | rfl
theorem W_nilCheckM {T : TypeId} {name : String} {g : FuncId} {v : Value} {x : Operand} [hT : MethT P T name g] (V : ev f x = .func (.method name) #[.iface T v] #[]) (h : AO P all Z K rest (upd f d (.func (.method name) #[.iface T v] #[])) ds w) :
  AO P all Z K (⟨some d, .nilCheck x, ty, pos, af, none⟩ :: rest) f ds w := by
 refine Aq rfl ?_ h;simp only [execOp, V];have := run_nilAhead (P := P) (w := w) (T := T) (name := name) (g := g) (v := v);have k : (program).run P w = .ok P w := rfl;have i : ((#[Value.iface T v] : Array Value)[0]? : Option Value) = some (.iface T v) := rfl;simp only [i];simp only [Sem.run_bind, k, Result.andThen_ok, this];rfl
end
instance ifChange : IfT Zp 69 := ⟨_, Tryz.underlying69⟩
instance mtCheck : MethT Zp 133 "foresight/owe.check" 333 := ⟨by kernel_rfl, _, Tryz.underlying133, rfl⟩
instance mtClash : MethT Zp 133 "foresight/owe.clash" 334 := ⟨by kernel_rfl, _, Tryz.underlying133, rfl⟩
instance mtMake : MethT Zp 133 "foresight/owe.make" 335 := ⟨by kernel_rfl, _, Tryz.underlying133, rfl⟩
theorem inForce_ok (w : World) (d : LV) (y : Dty) (g : dtyR.fits AZ w d y) : Fn Zp 37 [.agg d.toArray] w fun u w' => u = .bool (decide (y.req.kind = 1) || decide (y.req.kind = 2)) ∧ Ext w w' := by
 obtain ⟨S, v, a, c, h, k, n, m, C, D, l, e, b, t, f, rfl, -, -, -⟩ := dty19 g;refine AG Tryz.func37 rfl Tryz.ntmps37 (go ?_);refine Aj (L := [AI y.req.part, AI y.req.name, iV y.req.kind, S, v, a, c, h, iV y.since, k, n, m, C, D, l, e, b, t, f]) rfl (fun Q E => ?_);have V := E.D;by_cases X : y.req.kind = 1
 ·rw [decide_eq_true X];refine go ?_;exact FU
 ·rw [decide_eq_false X];by_cases W : y.req.kind = 2
  ·rw [decide_eq_true W];refine go ?_;exact FU
  ·rw [decide_eq_false W];refine go ?_;exact FU
theorem tfits_ok (w : World) (M : Option Addr) (a : Nat) (S : List Sgn) (T tv v : Value) (f : Fml) (h : SlAt sgnR AZ w (.slice M S.length a) S) (I : FAt AZ w v f) (X : T.oneCell' = true) (W : tv.oneCell' = true) (D : GF w) (d : KY w) (e : 10 ≤ w.heap.size) :
  Fn Zp 72 [.agg [.slice M S.length a, T, tv].toArray, v] w fun u w' => u = .bool (decide ((Db S f []).op ≠ 0)) ∧ Ext w w' := by
 obtain ⟨c, rfl, t, n⟩ := I.cells;obtain ⟨m, b, k, j, i, rfl⟩ := AX t;refine AG Tryz.func72 rfl Tryz.ntmps72 (go ?_);refine Aj (L := [.slice M S.length a, T, tv]) rfl (fun B E => ?_);refine Aj (L := [m, b, k, j, i]) rfl (fun l V => ?_);have x := E.E.trans V.E;have q := E.D.E V.E O;have r := V.D;refine go ?_;refine AC (Run_ok l M a S _ f none 0 [] (h.ext x) (I.ext x) (D.ext x) (d.E x O) (Nat.le_trans e x.size) ⟨none, 0, rfl, Nat.le_refl _, by omega, fun _ => rfl, .inl rfl⟩) rfl ?_;rintro u C ⟨g, Q⟩;obtain ⟨y, rfl, A, -⟩ := Q.cells;obtain ⟨F, H, K, o, p, rfl⟩ := AX A;obtain rfl := Q.op0;refine W_field rfl (show [iV (Db S f []).op, H, K, o, p][0]? = some (iV (Db S f []).op) from rfl) ?_;have z := x.trans g;by_cases s : (Db S f []).op = 0
 ·rw [decide_eq_false U];refine go ?_;exact AA rfl ⟨by rfl, z⟩
 ·rw [decide_eq_true s];refine go ?_;exact AA rfl ⟨by rfl, z⟩
def hitB (nm : LU) (y : Dty) : Bool := (decide (y.req.kind = 1) || decide (y.req.kind = 2)) && decide (y.req.name = nm)
theorem ofind1_ok (w : World) (d : LV) (y : Dty) (e : Nat) (nm : LU) (C : dtyR.fits AZ w d y) (S : Blk w e 9 [AI nm]) : Fn Zp 74 [.agg d.toArray, pt e] w fun u w' => u = .bool (hitB nm y) ∧ Ext w w' := by
 have j := C;obtain ⟨o, v, a, c, p, k, n, m, f, D, g, h, b, t, i, rfl, -, -, -⟩ := dty19 C;refine AG Tryz.func74 rfl Tryz.ntmps74 (go ?_);refine Aj (L := [AI y.req.part, AI y.req.name, iV y.req.kind, o, v, a, c, p, iV y.since, k, n, m, f, D, g, h, b, t, i]) rfl (fun Q E => ?_);have V := E.D;refine go ?_;refine AC (inForce_ok Q _ y (dtyR.ext j E.E)) rfl ?_;rintro _ q ⟨rfl, l⟩;have s := V.E l O;have x := E.E.trans l;have z := S.E x O;unfold hitB;cases hk : (decide (y.req.kind = 1) || decide (y.req.kind = 2)) with
 | false =>
  refine go ?_;exact AA rfl ⟨rfl, x⟩
 | true =>
  refine go ?_;refine W_seql rfl rfl (fun T => ?_) (fun T => ?_)
  ·refine go ?_;exact AA rfl ⟨by rw [decide_eq_true T]; rfl, x⟩
  ·refine go ?_;exact AA rfl ⟨by rw [decide_eq_false T]; rfl, x⟩
theorem ofind_ok (w : World) (sv : Value) (a : Option Addr) (c : Nat) (l : List Dty) (tv : Value) (nm : LU) (b : SlAt dtyR AZ w (.slice a l.length c) l) (G : l.length ≤ 1000) :
  Fn Zp 36 [.agg [sv, .slice a l.length c, tv].toArray, AI nm] w fun u w' => u = iV (fidxI l (hitB nm)) ∧ Ext w w' := by
 refine AG Tryz.func36 rfl Tryz.ntmps36 (go ?_);refine Aj (L := [sv, .slice a l.length c, tv]) rfl (fun Q E => ?_);refine Aj (L := [AI nm]) rfl (fun e V => ?_);have x := E.E.trans V.E;have f := E.D.E V.E O;have s := V.D;refine go ?_;refine AC (idxD_ok e a c l 74 [] [pt Q.heap.size] (hitB nm) (b.ext x) U (fun W d y K M C => ofind1_ok W d y _ nm C (s.E M O))) rfl ?_;rintro _ h ⟨rfl, g⟩;refine go ?_;exact AA rfl ⟨rfl, x.trans g⟩
theorem dcheck_ok (w : World) (nm : LU) (sv : Value) : Fn Zp 333 [.agg #[AI nm], sv] w fun u w' => u = iV 0 ∧ Ext w w' := by
 refine AG Tryz.func333 rfl Tryz.ntmps333 (go ?_);refine Aj (L := [AI nm]) rfl (fun Q E => go ?_);exact FU
theorem dclash_ok (w : World) (nm : LU) : Fn Zp 334 [.agg #[AI nm], .bool true] w fun u w' => u = iV 0 ∧ Ext w w' := by
 refine AG Tryz.func334 rfl Tryz.ntmps334 (go ?_);refine Aj (L := [AI nm]) rfl (fun Q E => go ?_);refine AC (R := fun u w' => u = iV 0 ∧ w' = Q) ?_ rfl ?_
 ·refine AG Tryz.func336 rfl Tryz.ntmps336 (go ?_);exact AA rfl ⟨rfl, rfl⟩
 rintro _ _ ⟨rfl, rfl⟩;refine go ?_;exact FU
theorem tcheck_ok (w : World) (i : Option Addr) (j : Nat) (S : List Sgn) (B : Option Addr) (g : Nat) (y : Dty) (t : Int) (v : Value) (P : SlAt sgnR AZ w (.slice i S.length j) S) (hl : SlAt dtyR AZ w (.slice B 1 g) [y]) (hk : y.req.kind = 2) (ht : 0 ≤ t) (hG : GF w) (N : KY w) (c : 10 ≤ w.heap.size) :
  Fn Zp 33 [.agg [.slice i S.length j, .slice B 1 g, iV t].toArray, .iface 133 v] w fun u w' => ∃ e : Int, u = iV e ∧ Ext w w' ∧ (e = 0 ↔ A6 S = true ∧ (Db S y.first []).op ≠ 0 ∧ (Db S y.now []).op ≠ 0) := by
 refine AG Tryz.func33 rfl Tryz.ntmps33 (go ?_);refine Aj (L := [.slice i S.length j, .slice B 1 g, iV t]) rfl (fun w1 E => ?_);have B1 := E.D;have R := E.E;refine go ?_;refine W_someeql rfl (go ?_);refine AC (Dj w1 _ S (P.ext R) (N.E R O)) rfl ?_;rintro _ w2 ⟨rfl, k2⟩;have x := R.trans k2;have B2 := B1.E k2 O;cases hv : A6 S with
 | false =>
  refine go ?_;exact AA rfl ⟨1, rfl, x, by simp⟩
 | true =>
  refine go ?_;refine Ah (α := Nat) (fun k => [(2, pt w.heap.size), (27, .slice B 1 g), (28, iV 1), (29, iV (k : Int))]) (fun k W => k ≤ 1 ∧ Ext w2 W ∧ (k = 1 → (Db S y.first []).op ≠ 0 ∧ (Db S y.now []).op ≠ 0)) (fun k => 1 - k) 0 ag ⟨by omega, Ext.refl _, fun h => by omega⟩ ?_;rintro k W fr ⟨a7, T, hq⟩;refine go ?_;by_cases a8 : k < 1
  ·obtain rfl : k = 0 := by omega
   obtain ⟨b, o, d, rfl, hb, hd, Q⟩ := hl.at (sz := 19) (k := 0) rfl rfl;have a5 := dtyR.one Q;have a4 := Q;obtain ⟨q0, q1, a, q3, q4, p, n, m, C, D, l, r, s, z, A, rfl, f1, f2, f3⟩ := dty19 Q;have H := x.trans T;have a3 := hd.E H O;have BW := B2.E T O;refine go ?_;refine AR (L := [AI y.req.part, AI y.req.name, iV y.req.kind, q0, q1, a, q3, q4, iV y.since, p, n, m, C, D, l, r, s, z, A]) rfl rfl a3 ?_;refine An (cs := [AI y.req.part, AI y.req.name, iV y.req.kind, q0, q1, a, q3, q4, iV y.since, p, n, m, C, D, l, r, s, z, A]) rfl rfl Dn a5 (fun w5 K => ?_);have B5 := K.D;have Z := H.trans K.E;have a1 := BW.E K.E O;refine go ?_;refine AC (inForce_ok w5 _ y (dtyR.ext a4 Z)) rfl ?_;rintro _ w6 ⟨rfl, G⟩;have M := Z.trans G;have V := B5.E G O;have a2 := a1.E G O;rw [hk];have ca : Cells w6 W.heap.size (0 + 9) [p, n, m, C, D] := V.cells.part 9 5;refine go ?_;refine AR (L := [p, n, m, C, D]) rfl rfl ca (go ?_);refine AC (tfits_ok w6 i j S _ _ _ y.first (P.ext M) (f2.ext M) rfl rfl (hG.ext M) (N.E M O) (Nat.le_trans c M.size)) rfl ?_;rintro _ w7 ⟨rfl, I⟩;have f := M.trans I;have a0 := V.E I O;have a6 := a2.E I O;by_cases X : (Db S y.first []).op ≠ 0
   ·rw [decide_eq_true X];have cb : Cells w7 W.heap.size (0 + 14) [l, r, s, z, A] := a0.cells.part 14 5;refine go ?_;refine AR (L := [l, r, s, z, A]) rfl rfl cb (go ?_);refine AC (tfits_ok w7 i j S _ _ _ y.now (P.ext f) (f3.ext f) rfl rfl (hG.ext f) (N.E f O) (Nat.le_trans c f.size)) rfl ?_;rintro _ w8 ⟨rfl, q⟩;by_cases F : (Db S y.now []).op ≠ 0
    ·rw [decide_eq_true F];refine go ?_;exact ⟨1, ⟨rfl, ag, ⟨Nat.le_refl _, ((((T.trans K.E).trans G).trans I).trans q), fun _ => ⟨X, F⟩⟩⟩, by omega⟩
    ·rw [decide_eq_false F];refine go ?_;exact AA rfl ⟨1, rfl, f.trans q, by simp [F]⟩
   ·rw [decide_eq_false X];refine go ?_;exact AA rfl ⟨1, rfl, f, by simp [X]⟩
  ·obtain rfl : k = 1 := by omega
   refine go ?_;exact AA rfl ⟨0, rfl, x.trans T, by simpa using hq rfl⟩
section
attribute [local semireducible] WC AO Bi BH Be Cq DN BU
variable {P : Program} {all : Array Oper} {Z : Fr → DS → List PanicEntry → World → Prop} {K : Fr → DS → World → Prop} {rest : List Oper} {f : Fr} {ds : DS} {w : World} {d : Nat} {ty : TypeId} {pos : String} {af : Array Edge}
theorem W_append0 {T e size N : Nat} {z : Value} {s x : Operand} {a b : Option Addr} {n c G : Nat} [hT : SlT P T e size N z] (g : ev f s = .slice a n c) (V : ev f x = .slice b 0 G) (j : n ≤ c)
  (h : AO P all Z K rest (upd f d (.slice a n c)) ds w) : AO P all Z K (⟨some d, .call ⟨.builtin .append, #[s, x], #[T, T]⟩, ty, pos, af, none⟩ :: rest) f ds w := by
 obtain ⟨q, H, _, D, _⟩ := hT.out
 have B : (Builtin.append_ #[T, T] ty #[.slice a n c, .slice b 0 G]).run P w = .ok (.slice a n c) w := by
  have i : (Builtin.firstCells size 0 (.slice b 0 G)).run P w = .ok #[] w := by
   cases b <;> simp [Builtin.firstCells, loadCells, loadCellsFrom]
  have X : (sizeOf e).run P w = .ok size w := by simp [sizeOf, typeInfo, H, D]
  simp only [Builtin.append_];simp [run_underlying hT.und, X, Builtin.lenOf, j, i];cases a <;> simp [storeCells]
 refine Aq rfl ?_ h;simp only [execOp, resolve, invoke, builtin, Sem.run_bind, Sem.run_pure, Result.andThen_ok, List.map_toArray, List.map_cons, List.map_nil, g, V];simp [g, V, B]
theorem W_slice_lhm {T e size N : Nat} {z : Value} {v b F g : Operand} {a : Option Addr} {n c : Nat} {k j o : IntKind} {l h m : Nat} [hT : SlT P T e size N z] (V : ev f v = .slice a n c) (M : ev f b = .int o (l : Int)) (u : ev f F = .int k (h : Int)) (A : ev f g = .int j (m : Int)) (s : l ≤ h) (X : h ≤ m) (W : m ≤ c)
  (i : AO P all Z K rest (upd f d (.slice (if m = l then a else a.map fun (x : Addr) => x.add (l * size)) (h - l) (m - l))) ds w) : AO P all Z K (⟨some d, .slice T v (some b) (some F) (some g), ty, pos, af, none⟩ :: rest) f ds w := by
 obtain ⟨q, H, _, D, _⟩ := hT.out;refine Aq rfl ?_ i;simp only [execOp, V, M, u, A, Option.map_some, Option.map_none, Instr.sliceAt, Sem.run_bind, run_underlying hT.und, Result.andThen_ok, Instr.slice, Instr.sliceBounds, Instr.sliceBound, asIntOf, Sem.run_pure, sizeOf, typeInfo, program];simp [Sem.run, H, D, show (m : Int) ≤ c by omega, X, s]
end
theorem cloneD_ok (w : World) (a : Option Addr) (c : Nat) (l : List Dty) (M : SlAt dtyR AZ w (.slice a l.length c) l) (r : l.length ≤ 1000) (s : 0 < l.length) :
  Fn Zp 332 [.slice a l.length c] w fun u w' => Ext w w' ∧ Acc AZ dtyR 40 19 w.heap.size w' u l := by
 have k := M.lt (show 0 < dtyR.size by decide);obtain ⟨p, G, L, e, h, d⟩ := k;cases e;have j := h;obtain ⟨m, q, e, _, _, _, V⟩ := h;cases e;obtain ⟨b, o, rfl, g, T⟩ := V.resolve_left U;have H : L.flatten.length = l.length * 19 := d.flat;refine AG Tryz.func332 rfl Tryz.ntmps332 (go ?_);refine W_slNil rfl (go ?_);refine AL (out := []) rfl U (congrArg some (List.eq_nil_of_length_eq_zero ED)) (fun t E => go ?_);have x := E.size;have Q := E.own (n := 0) (size := 19) rfl Dq (Nat.le_refl _);refine Ak (B := w.heap.size) (n := 0) rfl rfl Q (j.ext E.E) U Dn H d.oneC U U U (fun i v S => go ?_);have f := S.own;rw [Nat.zero_add, List.nil_append] at f;refine AA rfl ⟨E.E.E S.E (fun y K => (Ab Q (Option.mem_toList.1 K)).1), ⟨L, f, ?_⟩⟩;refine ((d.ext E.E).E S.E (fun b g A => ?_)).mono fun b g => ⟨trivial, fun e => ?_⟩
 ·have := (Ab Q (Option.mem_toList.1 A)).1;omega
 ·have := (Ab f e).1;omega
theorem own_set1 {w : World} {B e sz : Nat} {v : Value} {xs : LV} (h : w.ownsRow B e sz v 1 xs) :
  ∃ g cap L, v = .slice (sm g) 1 cap ∧ B ≤ g ∧ Blk w g e L ∧ sz ≤ L.length ∧ 1 ≤ cap ∧ cap * sz = L.length ∧ cap ≤ maxLen ∧ ∀ w' cs, cs.length = sz → Blk w' g e (splice L 0 cs) → w'.ownsRow B e sz v 1 cs := by
 obtain ⟨M, c⟩ := h;rcases c with ⟨_, s⟩ | ⟨g, cap, o, rfl, q, z, X, W, R, d⟩
 ·omega
 ·have a : sz ≤ o.toList.length := by
   have : 1 * sz ≤ cap * sz := Nat.mul_le_mul_right sz X;simp; omega
  refine ⟨g, cap, o.toList, rfl, q, by simpa [Blk] using z, a, X, by simp [R], W, fun w' cs T b => ⟨by omega, .inr ⟨g, cap, (splice o.toList 0 cs).toArray, rfl, q, b, X, W, ?_, ?_⟩⟩⟩
  ·simp [splice, T]; simp at a; omega
  ·simp only [splice, List.take_zero, List.nil_append];rw [List.take_append_of_le_length U, List.take_of_length_le U]
theorem fidx_one {y : Dty} (P : y.req.kind = 2) : fidxI [y] (hitB y.req.name) = 0 := by
 unfold fidxI hitB;simp [List.findIdx?_cons, P]
theorem deleteD_ok (w : World) (B : Nat) (v : Value) (xs : LV) (f : w.ownsRow B 40 19 v 1 xs) :
  Fn Zp 339 [v, iV 0, iV 1] w fun u w' => ∃ g c, u = .slice (sm g) 0 c ∧ v.ownBlock = some g ∧ Keep [g] w w' ∧ w'.ownsRow B 40 19 u 0 [] := by
 obtain ⟨g, d, L, rfl, q, S, D, k, p, i, r⟩ := own_set1 f;refine AG Tryz.func339 rfl Tryz.ntmps339 (go ?_);refine W_slice_lhm (l := 0) (h := 1) (m := 1) rfl rfl rfl rfl U U U (go ?_);refine AW (rd 0 6 (.alt 6 (.read 7 .done) .stop)) Al Dk (fun K N I => ⟨Ext K, ?_, ?_⟩)
 ·exact EZ
 have e := S.E N O;refine go ?_;refine D_E rfl ?_;refine W_append0 rfl rfl U ?_;refine wNl (Ext.refl _) ?_;refine go ?_
 have t : adv d 0 19 (sm g) = some ⟨g, 0, none⟩ := by
  unfold adv;rw [if_neg U];simp [Addr.add_lit]
 refine W_clear (b := g) (o := 0) (n := 1) (c := d) (congrArg (fun a => Value.slice a 1 d) t) U (AU rfl) e Dl (fun y z j s => ?_);refine go ?_;refine AA rfl ⟨g, d, rfl, rfl, N.any.trans s.E (fun x h _ => h), rfl, .inr ⟨g, d, _, rfl, q, s.D, by omega, i, ?_, ?_⟩⟩
 ·simp only [splice, List.take_zero, List.nil_append, List.size_toArray, List.length_append, List.length_drop, j];simp;omega
 ·simp
theorem without_ok (w : World) (sv tv : Value) (da : Option Addr) (B : Nat) (y : Dty) (t : Int) (b8 : tv = iV t) (h1 : sv.oneCell' = true) (M : SlAt dtyR AZ w (.slice da 1 B) [y]) (hk : y.req.kind = 2) (hG : GF w) (hK : KY w) (hN : 10 ≤ w.heap.size) :
  Fn Zp 337 [.agg [sv, .slice da 1 B, tv].toArray, AI y.req.name] w fun u w' => Ext w w' ∧ Acc AZ dtyR 40 19 w.heap.size w' u (dropD y t) := by
 subst b8;have hl2 := M.lt (show 0 < dtyR.size by decide);obtain ⟨b, o, d, rfl, j, hd, a2⟩ := hl2.at (sz := 19) (k := 0) rfl rfl;have b5 := dtyR.one a2;obtain ⟨S, i, a, c, C, N, P, m, Q, D, l, T, X, Z, b4, rfl, f1, f2, f3⟩ := dty19 a2
 have hot : oneC [sv, .slice (some ⟨b, o, none⟩) 1 B, iV t] := by
  intro u hu;simp at hu;rcases hu with rfl | rfl | rfl
  ·exact h1
  ·rfl
  ·rfl
 refine AG Tryz.func337 rfl Tryz.ntmps337 (go ?_);refine Aj (L := [sv, .slice (some ⟨b, o, none⟩) 1 B, iV t]) rfl (fun w1 E => ?_);have B1 := E.D;have k1 := E.E;refine go ?_;refine AC (ofind_ok w1 sv (some ⟨b, o, none⟩) B [y] (iV t) y.req.name (M.ext k1) O) rfl ?_;rintro _ w2 ⟨rfl, k2⟩;rw [fidx_one hk];have x := k1.trans k2;have B2 := B1.E k2 O;have b2 := hd.E x O;have c9 := x.size;have d1 := E.size;have d0 := k2.size;refine go ?_;refine AR (L := [AI y.req.part, AI y.req.name, iV y.req.kind, S, i, a, c, C, iV y.since, N, P, m, Q, D, l, T, X, Z, b4]) rfl rfl b2 ?_;refine An (cs := [AI y.req.part, AI y.req.name, iV y.req.kind, S, i, a, c, C, iV y.since, N, P, m, Q, D, l, T, X, Z, b4]) rfl rfl Dn b5 (fun w3 I => ?_);have e3 := x.trans I.E;have B3 := I.D;have a4 := B2.E I.E O;have z3 := I.size;refine go ?_;refine AC (cloneD_ok w3 (some ⟨b, o, none⟩) B [y] (M.ext e3) O O) rfl ?_;rintro u w4 ⟨R, hA⟩;have W := e3.trans R;have B4 := B3.E R O;have a5 := a4.E R O;obtain ⟨L4, o4, F4⟩ := hA.ex;obtain ⟨g, c1, Lg, rfl, hg, a0, c2, c3, c4, c5, b7⟩ := own_set1 o4;have z4 := R.size;refine go ?_;refine AC (pending_ok w4 _ y (dtyR.mono (dtyR.ext (dty_of (p := y.req.part) (n := y.req.name) (k := y.req.kind) (t := y.since) (f1.ext W) (f2.ext W) (f3.ext W)) (Ext.refl _)) fun _ _ => trivial) (hG.ext W) (hK.E W O) (Nat.le_trans hN W.size)) rfl ?_;rintro u5 w5 ⟨k5, z⟩;obtain ⟨cs, rfl, b1, b6⟩ := z.cells;obtain ⟨p0, r, s, G, H, rfl⟩ := AX b1;obtain rfl := z.op0;refine An (cs := [iV (pendF y.first y.now).op, r, s, G, H]) rfl rfl Dn b6 (fun w6 K => ?_);have z6 := K.size;have F := k5.trans K.E;have e6 := W.trans F;have B6 := K.D;have a7 := B4.E F O;have a6 := a5.E F O;have a8 := z.lt.ext K.E;have a9 := a0.E F O;have c6 := a0.lt;have c8 := F.size;have z5 := k5.size;unfold dropD;by_cases a3 : (pendF y.first y.now).op = 1
 ·rw [if_pos a3];refine go ?_;refine AC (deleteD_ok w6 w3.heap.size _ _ (Aa o4 F)) rfl ?_;rintro u7 V ⟨g7, c7, rfl, b3, k7, o7⟩;cases b3;refine go ?_;refine AA rfl ⟨e6.E k7 Dl, ⟨[], ?_, RsAt.nil⟩⟩;exact Bf o7 U
 ·rw [if_neg a3];refine go ?_;refine AN (v := iV 3) rfl rfl rfl a7 O (fun V q => ?_);have B7 : Blk V w2.heap.size 40 [AI y.req.part, AI y.req.name, iV 3, S, i, a, c, C, iV y.since, N, P, m, Q, D, l, T, X, Z, b4] := q.D;have e7 : Ext w V := e6.E q.E Dl;have b9 := a6.E q.E Dl;have c0 := B6.E q.E Dl;have b0 := a9.E q.E Dl;have f7 := a8.E q.E (fun b j A => by rw [List.mem_singleton] at A; omega);have z7 := q.size;have cr : Cells V w2.heap.size (0 + 0) [AI y.req.part, AI y.req.name, iV 3, S, i, a, c, C] := B7.cells.part 0 8;refine go ?_;refine AR (L := [AI y.req.part, AI y.req.name, iV 3, S, i, a, c, C]) rfl rfl cr (go ?_);have a1 := dty_of (ok := fun b => b < w6.heap.size ∧ b ≠ g) (w := V) (p := y.req.part) (n := y.req.name) (k := 3) (t := t) (q0 := S) (q1 := i) (q2 := a) (q3 := c) (q4 := C) (f := y.req.formula) ((f1.ext e7).mono fun b j => by omega) (f7.mono fun b j => by omega) (f7.mono fun b j => by omega);refine AE (cs := [AI y.req.part, AI y.req.name, iV 3, S, i, a, c, C, iV t, iV (pendF y.first y.now).op, r, s, G, H, iV (pendF y.first y.now).op, r, s, G, H]) rfl rfl rfl (dtyR.one a1) b0 Dl (fun w8 h => ?_);have e8 : Ext w w8 := e7.E h.E Dl;refine go ?_;refine AA rfl ⟨e8, ⟨[[AI y.req.part, AI y.req.name, iV 3, S, i, a, c, C, iV t, iV (pendF y.first y.now).op, r, s, G, H, iV (pendF y.first y.now).op, r, s, G, H]], ?_, RsAt.one (dtyR.mono (dtyR.E a1 h.E fun b j A => by rw [List.mem_singleton] at A; exact j.2 A) fun b j => ⟨trivial, fun e => j.2 (Option.some.inj e).symm⟩)⟩⟩;exact Bf (b7 w8 _ rfl h.D) U
theorem dmake_ok (w : World) (sv : Value) (h : Option Addr) (g : Nat) (y : Dty) (t : Int) (X : sv.oneCell' = true) (M : SlAt dtyR AZ w (.slice h 1 g) [y]) (P : y.req.kind = 2) (D : GF w) (a : KY w) (c : 10 ≤ w.heap.size) :
  Fn Zp 335 [.agg #[AI y.req.name], .agg [sv, .slice h 1 g, iV t].toArray] w fun u w' => Ext w w' ∧ Acc AZ dtyR 40 19 w.heap.size w' u (dropD y t) := by
 refine AG Tryz.func335 rfl Tryz.ntmps335 (go ?_);refine Aj (L := [AI y.req.name]) rfl (fun i E => ?_);refine Aj (L := [sv, .slice h 1 g, iV t]) rfl (fun e V => ?_);have x := E.E.trans V.E;have f := E.D.E V.E O;have s := V.D;refine go ?_;refine AC (without_ok e sv (iV t) h g y t rfl X (M.ext x) P (D.ext x) (a.E x O) (Nat.le_trans c x.size)) rfl ?_;rintro u j ⟨b, G⟩;obtain ⟨L, d, Q⟩ := G.ex;refine go ?_;exact AA rfl ⟨x.trans b, ⟨L, Bf d x.size, Q⟩⟩
abbrev dropC (nm : LU) : LV := [iV 2, AI [], AI nm, iV 0, iV 0, AI [], iV 0, iV 0, .slice none 0 0]
theorem changeOf_ok (w : World) (nm : LU) : Fn Zp 31 [.agg (dropC nm).toArray] w fun u w' => u = .iface 133 (.agg #[AI nm]) ∧ Ext w w' := by
 refine AG Tryz.func31 rfl Tryz.ntmps31 (go ?_);refine Aj (L := dropC nm) rfl (fun Q E => go ?_);exact FU
theorem apply1_ok (w : World) (k a : Nat) (M : Option Addr) (L : Nat) (S : List Sgn) (h : Option Addr) (g : Nat) (y : Dty) (t : Int) (v : Value) (j : Blk w k 69 [.iface 133 v]) (m : Blk w a 72 [.slice M S.length L, .slice h 1 g, iV t])
  (d : SlAt sgnR AZ w (.slice M S.length L) S) (f : SlAt dtyR AZ w (.slice h 1 g) [y]) (P : y.req.kind = 2) (i : 0 ≤ t) (D : GF w) (b : KY w) (c : 10 ≤ w.heap.size) :
  Fn Zp 32 [pt a, pt k] w fun u w' => ∃ e : Int, u = iV e ∧ Ext w w' ∧ (e = 0 ↔ A6 S = true ∧ (Db S y.first []).op ≠ 0 ∧ (Db S y.now []).op ≠ 0) := by
 refine AG Tryz.func32 rfl Tryz.ntmps32 (go ?_);refine AC (tcheck_ok w M L S h g y t v d f P i D b c) rfl ?_;rintro _ n ⟨e, rfl, l, F⟩;refine go ?_;exact AA rfl ⟨e, rfl, l, F⟩
theorem apply2_ok (w : World) (k T : Nat) (nm : LU) (sv : Value) (P : Blk w k 69 [.iface 133 (.agg #[AI nm])]) (b : Blk w T 22 [sv]) (X : ∃ a n c, sv = .slice a n c) : Fn Zp 34 [pt k, pt T] w fun u w' => u = iV 0 ∧ Ext w w' := by
 obtain ⟨a, n, c, rfl⟩ := X;refine AG Tryz.func34 rfl Tryz.ntmps34 (go ?_);refine W_invoke rfl (dcheck_ok w nm _) rfl ?_;rintro _ L ⟨rfl, l⟩;refine go ?_;exact AA rfl ⟨rfl, l⟩
theorem apply3_ok (w : World) (k d c : Nat) (y : Dty) (sv tv : Value) (b : Option Addr) (g : Nat) (f : Blk w k 69 [.iface 133 (.agg #[AI y.req.name])]) (i : Blk w d 72 [sv, .slice b 1 g, tv]) (W : Blk w c 42 (dropC y.req.name)) (M : SlAt dtyR AZ w (.slice b 1 g) [y]) (P : y.req.kind = 2) :
  Fn Zp 35 [pt k, pt d, pt c] w fun u w' => u = iV 0 ∧ Ext w w' := by
 refine AG Tryz.func35 rfl Tryz.ntmps35 (go ?_);refine AW (rd 0 5 (rd 7 3 (.alt 5 (.read 6 (.alt 10 (.read 11 .done) .stop)) .stop))) Al Dk (fun K N I => ⟨Ext K, ?_, ?_⟩)
 ·exact EZ
 refine go ?_;refine D_R (v := .func (.method "foresight/owe.clash") #[.iface 133 (.agg #[AI y.req.name])] #[]) rfl rfl (fun V a => by refine W_makeMeth rfl ?_; exact AH ⟨rfl, rfl, rfl⟩) ?_;refine D_R (v := .func (.method "foresight/owe.clash") #[.iface 133 (.agg #[AI y.req.name])] #[]) rfl rfl (fun V a => by refine W_nilCheckM (T := 133) (name := "foresight/owe.clash") rfl ?_; exact AH ⟨rfl, rfl, rfl⟩) ?_;refine go ?_;refine D_E rfl ?_;refine AC (ofind_ok K sv b g [y] tv y.req.name (M.ext N) O) rfl ?_;rintro _ L ⟨rfl, l⟩;rw [fidx_one P];refine wNl l ?_;refine go ?_;refine D_E rfl ?_;refine W_invoke rfl (dclash_ok L y.req.name) rfl ?_;rintro _ j ⟨rfl, e⟩;refine wNl (l.trans e) ?_;refine go ?_;exact AA rfl ⟨rfl, (N.trans l).trans e⟩
theorem drop_len (y : Dty) (t : Int) : (dropD y t).length ≤ 1 := by
 unfold dropD
 split <;> simp
theorem drop_one (y : Dty) (t : Int) : dropD y t = [] ∨ ∃ z, dropD y t = [z] ∧ z.req.kind = 3 ∧ z.req.formula = y.req.formula ∧ z.first = pendF y.first y.now ∧ z.now = pendF y.first y.now := by
 unfold dropD
 split
 ·exact .inl rfl
 ·exact .inr ⟨_, rfl, rfl, rfl, rfl, rfl⟩
theorem apply_ok (w : World) (M : Option Addr) (E : Nat) (S : List Sgn) (j : Option Addr) (n : Nat) (y : Dty) (t : Int) (hS : SlAt sgnR AZ w (.slice M S.length E) S) (hl : SlAt dtyR AZ w (.slice j 1 n) [y]) (P : y.req.kind = 2) (ht : 0 ≤ t) (hz : szF y.req.formula + 2 * szF (pendF y.first y.now) ≤ 1000000) (hG : GF w) (hK : KY w) (hN : 10 ≤ w.heap.size) :
  Fn Zp 12 [.slice M S.length E, .slice j 1 n, .agg (dropC y.req.name).toArray, iV t] w fun u w' => ∃ (v : Value) (e : Int), u = .tuple #[v, iV e] ∧ Ext w w' ∧ (e = 0 ↔ A6 S = true ∧ (Db S y.first []).op ≠ 0 ∧ (Db S y.now []).op ≠ 0) ∧ (e = 0 → SlAt dtyR AZ w' v (dropD y t)) := by
 refine AG Tryz.func12 rfl Tryz.ntmps12 (go ?_);refine Aj (L := [.slice M S.length E]) rfl (fun w1 n1 => ?_);refine Aj (L := dropC y.req.name) rfl (fun w2 n2 => ?_);have e2 := n1.E.trans n2.E;have B1 := n1.D.E n2.E O;have B2 := n2.D;refine go ?_;refine AC (changeOf_ok w2 y.req.name) rfl ?_;rintro _ a ⟨rfl, k3⟩;refine AQ (fun w4 n4 => ?_);refine AN (v := .iface 133 (.agg #[AI y.req.name])) rfl rfl rfl n4.D O (fun f p5 => ?_);have c5 : Ext a f := n4.E.E p5.E O;have B5 : Blk f a.heap.size 69 [.iface 133 (.agg #[AI y.req.name])] := p5.D;have a2 := k3.trans c5;have C1 := B1.E a2 O;have C2 := B2.E a2 O;have e5 := e2.trans a2;refine go ?_;refine An (cs := [.slice M S.length E, .slice j 1 n, iV t]) rfl rfl Dn (AU rfl) (fun w6 p => ?_);have z6 := p.size;have B6 := p.D;have D1 := C1.E p.E O;have D2 := C2.E p.E O;have D5 := B5.E p.E O;have e6 := e5.trans p.E;refine go ?_;refine Ce (out := [.func (.func 32) #[] #[pt f.heap.size, pt a.heap.size], .func (.func 34) #[] #[pt a.heap.size, pt w.heap.size], .func (.func 35) #[] #[pt a.heap.size, pt f.heap.size, pt w1.heap.size]]) rfl U rfl rfl (fun w7 r => ?_);have B7 := r.D;have e7 := e6.trans r.E;have E1 := D1.E r.E O;have E2 := D2.E r.E O;have E5 := D5.E r.E O;have E6 := B6.E r.E O;refine go ?_;refine Ah (α := Nat) (fun k => [(10, pt a.heap.size), (11, pt f.heap.size), (31, .slice (sm w6.heap.size) 3 3), (32, iV 3), (33, iV (k : Int))]) (fun k W => k ≤ 3 ∧ Ext w7 W ∧ (1 ≤ k → A6 S = true ∧ (Db S y.first []).op ≠ 0 ∧ (Db S y.now []).op ≠ 0)) (fun k => 3 - k) 0 ag ⟨by omega, Ext.refl _, fun h => by omega⟩ ?_;rintro k W fr ⟨d4, T, hq⟩;have H := e7.trans T;have K := B7.E T O;have F1 := E1.E T O;have F2 := E2.E T O;have I := E5.E T O;have F6 := E6.E T O;have b6 := hS.ext H;have a1 := hl.ext H;have a3 := hG.ext H;have a4 := hK.E H O;have a5 := Nat.le_trans hN H.size;refine go ?_;by_cases d5 : k < 3
 ·have b9 : k = 0 ∨ k = 1 ∨ k = 2 := by omega
  rcases b9 with rfl | rfl | rfl
  ·have c0 := K.cell (o := 0 + 0) rfl;refine go ?_;refine Av (v1 := []) (v2 := [pt f.heap.size, pt a.heap.size]) (vs := []) rfl (apply1_ok W a.heap.size f.heap.size M E S j n y t _ I F6 b6 a1 P ht a3 a4 a5) rfl ?_;rintro _ F ⟨e, rfl, i, he⟩;by_cases s : e = 0
   ·subst s;refine go ?_;exact ⟨1, ⟨rfl, ag, ⟨by omega, T.trans i, fun _ => he.1 rfl⟩⟩, by omega⟩
   ·refine go ?_;exact Cv rfl ⟨_, e, rfl, H.trans i, he, fun h => absurd h s⟩
  ·have c0 := K.cell (o := 0 + 1) rfl;refine go ?_;refine Av (v1 := []) (v2 := [pt a.heap.size, pt w.heap.size]) (vs := []) rfl (apply2_ok W a.heap.size w.heap.size y.req.name _ I F1 ⟨_, _, _, rfl⟩) rfl ?_;rintro _ F ⟨rfl, i⟩;refine go ?_;exact ⟨2, ⟨rfl, ag, ⟨by omega, T.trans i, fun _ => hq U⟩⟩, by omega⟩
  ·have c0 := K.cell (o := 0 + 2) rfl;refine go ?_;refine Av (v1 := []) (v2 := [pt a.heap.size, pt f.heap.size, pt w1.heap.size]) (vs := []) rfl (apply3_ok W a.heap.size f.heap.size w1.heap.size y _ _ j n I F6 F2 a1 P) rfl ?_;rintro _ F ⟨rfl, i⟩;refine go ?_;exact ⟨3, ⟨rfl, ag, ⟨by omega, T.trans i, fun _ => hq U⟩⟩, by omega⟩
 ·obtain rfl : k = 3 := by omega
  have c3 := hq U;refine go ?_;refine W_invoke rfl (dmake_ok W _ j n y t rfl a1 P a3 a4 a5) rfl ?_;rintro u F ⟨i, Z⟩;have e8 := H.trans i;have a7 := drop_len y t;have a8 := drop_one y t;have R := Z.sl
  have b2 : ∀ z ∈ dropD y t, szF z.req.formula + szF z.first + szF z.now ≤ 1000000 := fun z C => by
   rcases a8 with e | ⟨z', e, h1, h2, h3, h4⟩
   ·rw [e] at C; cases C
   ·rw [e] at C; simp at C; subst C; rw [h2, h3, h4]; omega
  clear a8;generalize dropD y t = l at Z a7 R b2 ⊢;obtain ⟨N, c, rfl, _⟩ := R.len;refine go ?_;refine Ah (α := Nat × Nat) (fun q => [(16, .slice N l.length c), (17, iV (q.2 : Int)), (46, .slice N l.length c), (47, iV (l.length : Int)), (48, iV (q.1 : Int))]) (fun q V => q.1 ≤ l.length ∧ q.2 ≤ q.1 ∧ Ext F V) (fun q => l.length - q.1) (0, 0) ag ⟨by omega, by omega, Ext.refl _⟩ ?_;rintro ⟨k, m⟩ V c7 ⟨b8, A, G⟩;simp only at b8 A G;refine go ?_;by_cases hlt2 : k < l.length
  ·obtain ⟨x, hx⟩ := gl hlt2;obtain ⟨b, o, d, rfl, B, hd, X⟩ := R.at (sz := 19) rfl hx;have D : d.length = 19 := dtyR.len X;refine go ?_;refine AR (L := d) rfl D (hd.E G O) ?_;refine An (cs := d) rfl D Dn (dtyR.one X) (fun V2 m2 => go ?_);refine Bh rfl m2.D D ?_;refine AC (inForce_ok V2 d x (dtyR.ext X (G.trans m2.E))) rfl ?_;rintro _ V3 ⟨rfl, j3⟩;have b3 := (G.trans m2.E).trans j3;cases hf : (decide (x.req.kind = 1) || decide (x.req.kind = 2)) with
   | true =>
    refine go ?_;exact ⟨(k + 1, m + 1), ⟨rfl, ag, ⟨by simp only; omega, by simp only; omega, b3⟩⟩, by simp only; omega⟩
   | false =>
    refine go ?_;exact ⟨(k + 1, m), ⟨rfl, ag, ⟨by simp only; omega, by simp only; omega, b3⟩⟩, by simp only; omega⟩
  ·refine go ?_;have b5 := Z.ext G;have eV := e8.trans G;have d7 := H.size;refine Ah (α := Nat) (fun q => [(16, .slice N l.length c), (64, .slice N l.length c), (65, iV (l.length : Int)), (66, iV (q : Int))]) (fun q V => q ≤ l.length ∧ Ext w V ∧ (q = 0 → Acc AZ dtyR 40 19 W.heap.size V (.slice N l.length c) l) ∧ (q = 1 → SlAt dtyR AZ V (.slice N l.length c) l)) (fun q => l.length - q) 0 ag ⟨by omega, eV, fun _ => b5, fun h => by omega⟩ ?_;rintro q V4 c8 ⟨d6, e4, b1, c2⟩;refine go ?_;by_cases c1 : q < l.length
   ·obtain rfl : q = 0 := by omega
    obtain ⟨z, rfl⟩ : ∃ z, l = [z] := by
     match l, a7, c1 with
     | [z], _, _ => exact ⟨z, rfl⟩
     | [], _, h => exact absurd h O
    obtain ⟨L4, o4, f4⟩ := (b1 rfl).ex
    obtain ⟨d, rfl⟩ : ∃ d, L4 = [d] := by
     have := f4.1
     match L4, this with
     | [d], _ => exact ⟨d, rfl⟩
    have b0 := f4.2 0 d z rfl rfl;have D : d.length = 19 := dtyR.len b0;obtain ⟨g, c6, Lg, e, hg, a6, c9, d0, d1, d2, c4⟩ := own_set1 o4;cases e
    have b7 : Cells V4 g (0 + 0 * 19) d := by
     obtain ⟨a', c', e, _, _, _, hx⟩ := AV (ok := AZ) o4 fun _ _ => trivial;cases e;obtain ⟨b', o', e, _, hc⟩ := hx.resolve_left O;cases e;simpa using hc
    refine go ?_;refine AR (L := d) rfl D b7 ?_;refine AC (ocopied_ok V4 d z _ (dtyR.lt b0) (b2 z O)) rfl ?_;rintro u5 V5 ⟨Q, rfl, k5, a0⟩;have a9 : Q.length = 19 := dtyR.len a0;have d3 := a6.lt;refine go ?_;refine AE (cs := Q) rfl rfl a9 (dtyR.one a0) (a6.E k5 O) U (fun V6 p6 => ?_);have b4 : Ext w V6 := (e4.trans k5).E p6.E Dl;refine go ?_;refine ⟨1, ⟨rfl, ag, ⟨by simp, b4, fun h => by omega, fun _ => ?_⟩⟩, by simp⟩;have hr := c4 V6 Q a9 p6.D;have hs := AV (ok := AZ) hr fun _ _ => trivial
    exact ⟨some ⟨g, 0, none⟩, _, [Q], rfl, by simpa using hs, RsAt.one (dtyR.mono (dtyR.E a0 p6.E fun b B A => by
     rw [List.mem_singleton] at A;rcases B with B | B
     ·exact B.1.2 (by rw [A]; rfl)
     ·omega) fun _ _ => trivial)⟩
   ·obtain rfl : q = l.length := by omega
    refine go ?_;refine Cv rfl ⟨_, 0, rfl, e4, by simpa using c3, fun _ => ?_⟩;by_cases s : l.length = 0
    ·exact (b1 s).sl
    ·exact c2 U
theorem sem_is (s : Wd) (nm : LU) (v : Int) (t : Nat) : sem s (isF nm v) t ↔ s t nm = v := by
 unfold isF;rw [sem_mk];simp [opS, opP]
theorem ow_sem (s : Wd) (t : Nat) : sem s owW t ↔ CT (fun _ => True) (fun i => s i [103] = 1) t := by
 unfold owW;rw [sem_mk];have d : sem s ⟨1, [], 0, 0, []⟩ = fun _ => True := by funext i; rw [sem_mk]; simp [opS, opP]
 have x : sem s (isF [103] 1) = fun i => s i [103] = 1 := by funext i; exact propext (sem_is s _ _ i)
 simp only [List.map_cons, List.map_nil, d, x];simp [opS, opP]
theorem w_two : vlS spcW.sigs 2 [103] = 1 := by kernel_rfl
theorem w_one : vlS spcW.sigs 1 [103] = 0 := by kernel_rfl
theorem ow_yes : sem (wdG spcW.sigs ([0] ++ [2]) 1 1) owW 0 := by
 rw [ow_sem];refine ⟨1, by omega, ?_, fun _ _ _ => trivial⟩;exact w_two
theorem ow_no : ¬ sem (wdG spcW.sigs ([] ++ [1]) 0 1) owW 0 := by
 rw [ow_sem];rintro ⟨x, _, h, _⟩;have e : lixN 0 1 x = 0 := by unfold lixN; split <;> omega
 have a : wdG spcW.sigs ([] ++ [1]) 0 1 x [103] = 0 := by unfold wdG; rw [e]; exact w_one
 rw [a] at h;cases h
theorem madeI1 : (madeCells (iV 0).cells (1 * 1)).toList = [iV 0] := by kernel_rfl
set_option maxHeartbeats 1000000 in
theorem owed_ok (w : World) (hP : GK w) (D : GF w) (Z : KY w) (hN : 10 ≤ w.heap.size) : Fn Zp 5 [] w fun u w' => u = .bool true ∧ Ext w w' := by
 refine AG Tryz.func5 rfl Tryz.ntmps5 (go ?_);refine AC (parseS_is w _ spcW hP parse_W) rfl ?_;rintro _ w1 ⟨c, rfl, k1, sv, rv, rfl, hS, hR⟩;obtain ⟨P, L, rfl, _⟩ := hS.len;obtain ⟨ra, rc, rfl, _⟩ := hR.len;refine go ?_;refine An (cs := [.slice P spcW.sigs.length L, .slice ra spcW.reqs.length rc]) rfl rfl Dn (AU rfl) (fun w2 n2 => ?_);have e2 := k1.trans n2.E;have B2 := n2.D;refine go ?_;refine AC (mstart_ok w2 P L ra rc spcW 0 U (hS.ext n2.E) (hR.ext n2.E) (fun r hr => by simp [spcW] at hr; subst hr; exact of_decide_eq_true Dk) (D.ext e2) (Z.E e2 O) (Nat.le_trans hN e2.size)) rfl ?_;rintro _ w3 ⟨v3, e3, rfl, k3, c1, b8⟩;obtain rfl := c1.2 w_chk;have hD3 := b8 w_chk;have y3 := e2.trans k3;have B3 := B2.E k3 O;have hS3 := (hS.ext n2.E).ext k3;obtain ⟨da, dc, e, _⟩ := hD3.len;replace e : v3 = .slice da 1 dc := e;subst e;refine go ?_;refine AC (mtick_ok w3 P L spcW.sigs da dc (CW spcW 0) 1 hS3 hD3 (by simp [CW, spcW]) (fun y hy => by simp [CW, spcW] at hy; subst hy; exact ⟨of_decide_eq_true Dk, of_decide_eq_true Dk⟩) (D.ext y3) (Z.E y3 O) (Nat.le_trans hN y3.size)) rfl ?_;rintro v4 w4 ⟨k4, a6⟩;rw [w_tick] at a6;have y4 := y3.trans k4;have B4 := B3.E k4 O;have b5 := hS3.ext k4;obtain ⟨ea, ec, e, _⟩ := a6.len;replace e : v4 = .slice ea 1 ec := e;subst e;refine go ?_;refine AC (apply_ok w4 P L spcW.sigs ea ec duW 1 b5 a6 rfl U (of_decide_eq_true Dk) (D.ext y4) (Z.E y4 O) (Nat.le_trans hN y4.size)) rfl ?_;rintro _ w5 ⟨v5, e5, rfl, k5, c2, b9⟩;obtain rfl := c2.2 ⟨w_valid, by rw [w_first]; decide, by rw [w_now]; decide⟩;have a3 := b9 rfl;rw [w_drop] at a3;have y5 := y4.trans k5;have B5 := B4.E k5 O;have b7 := b5.ext k5;obtain ⟨fa, E, e, _⟩ := a3.len;replace e : v5 = .slice fa 1 E := e;subst e;obtain ⟨gb, b2, d, c4, -, c0, c3⟩ := a3.at (sz := 19) (k := 0) rfl rfl;subst c4;refine go ?_;refine AW (rd 0 19 (.alt 19 (.alt 20 (.alt 21 (.read 22 (.alt 23 (rd 24 5 (.alt 29 (.alt 30 (.read 31 (.alt 32 (rd 33 3 .done) .stop)) .stop) (.alt 30 (.read 31 (.alt 29 (.alt 32 (rd 33 3 .done) .stop) .stop)) .stop))) .stop)) .stop) (.alt 21 (.alt 20 (.read 22 (.alt 23 (rd 24 5 (.alt 29 (.alt 30 (.read 31 (.alt 32 (rd 33 3 .done) .stop)) .stop) (.alt 30 (.read 31 (.alt 29 (.alt 32 (rd 33 3 .done) .stop) .stop)) .stop))) .stop)) .stop) .stop)) (.alt 20 (.alt 19 (.alt 21 (.read 22 (.alt 23 (rd 24 5 (.alt 29 (.alt 30 (.read 31 (.alt 32 (rd 33 3 .done) .stop)) .stop) (.alt 30 (.read 31 (.alt 29 (.alt 32 (rd 33 3 .done) .stop) .stop)) .stop))) .stop)) .stop) (.alt 21 (.read 22 (.alt 19 (.alt 23 (rd 24 5 (.alt 29 (.alt 30 (.read 31 (.alt 32 (rd 33 3 .done) .stop)) .stop) (.alt 30 (.read 31 (.alt 29 (.alt 32 (rd 33 3 .done) .stop) .stop)) .stop))) .stop) .stop)) .stop)) (.alt 21 (.alt 19 (.alt 20 (.read 22 (.alt 23 (rd 24 5 (.alt 29 (.alt 30 (.read 31 (.alt 32 (rd 33 3 .done) .stop)) .stop) (.alt 30 (.read 31 (.alt 29 (.alt 32 (rd 33 3 .done) .stop) .stop)) .stop))) .stop)) .stop) (.alt 20 (.read 22 (.alt 19 (.alt 23 (rd 24 5 (.alt 29 (.alt 30 (.read 31 (.alt 32 (rd 33 3 .done) .stop)) .stop) (.alt 30 (.read 31 (.alt 29 (.alt 32 (rd 33 3 .done) .stop) .stop)) .stop))) .stop) .stop)) .stop)) .stop)))) Al Dk (fun K N ed => ⟨Ext K, ?_, ?_⟩)
 ·exact EZ
 have a0 := y5.trans N;have T := a3.ext N;have W := D.ext a0;have f := Z.E a0 O;have X := Nat.le_trans hN a0.size;have c9 := B5.E N O;have b6 := b7.ext N;obtain ⟨q0, q1, q2, q3, q4, I, n, m, C, a4, S, B, b, b3, b4, rfl, -, -, -⟩ := dty19 c3
 have ck : K.cell? ⟨gb, b2 + 0 * 19 + 0 + 2, none⟩ = some (iV 3) := by
  have := (c0.E N O) 2 _ rfl;exact this
 have A : Ext K K := Ext.refl K;have I : Ext K K := Ext.refl K;refine go ?_
 refine D_leaf (α := Nat × Nat × Value × Value × Value × Value × Value) (.alt 23 (rd 24 5 (.alt 29 (.alt 30 (.read 31 (.alt 32 (rd 33 3 .done) .stop)) .stop) (.alt 30 (.read 31 (.alt 29 (.alt 32 (rd 33 3 .done) .stop) .stop)) .stop))) .stop) (fun u => [(1, pt w1.heap.size), (6, .slice (some ⟨gb, b2, none⟩) 1 E), (57, .bool true), (59, .slice P spcW.sigs.length L), (61, .agg [u.2.2.1, u.2.2.2.1, u.2.2.2.2.1, u.2.2.2.2.2.1, u.2.2.2.2.2.2].toArray), (64, .agg [.slice (sm u.1) 1 1, .slice (sm u.2.1) 1 1].toArray)])
  (fun u V => Ext K V ∧ FAt AZ V (.agg [u.2.2.1, u.2.2.2.1, u.2.2.2.2.1, u.2.2.2.2.2.1, u.2.2.2.2.2.2].toArray) owW ∧ Blk V u.1 3 [iV 0] ∧ Blk V u.2.1 3 [iV 2]) ?_ (fun G => ?_)
 rotate_left
 ·refine id ?_;refine D_A rfl ?_ ?_
  ·refine go ?_;refine AC (mgoal_ok K _ E _ (T.ext (A.trans I)) (show [drW].length ≤ 100 by simp) (W.ext (A.trans I)) (f.E (A.trans I) O) (Nat.le_trans X (A.trans I).size)) rfl ?_;rintro ug H ⟨x, a⟩;rw [w_goal] at a;obtain ⟨R, rfl, Q, -⟩ := a.cells;obtain ⟨F, g, M, z, l, rfl⟩ := AX Q;have n := I.trans x;refine wNl (A.trans n) ?_;refine D_A rfl ?_ ?_
   ·refine go ?_;refine AL (out := [iV 0]) rfl U D0 (fun v o => ?_);have t := o.E;have m := n.trans t;refine wNl (A.trans m) ?_;refine D_E rfl (go ?_);refine AL (out := [iV 2]) rfl U D0 (fun s p => ?_);have q := p.E;have C := m.trans q;refine wNl (A.trans C) ?_;refine go ?_;exact G (H.heap.size, v.heap.size, F, g, M, z, l) _ _ ag ⟨A.trans C, (((a.ext t).ext q).mono fun _ _ => trivial), (o.D.E q O), p.D⟩
   ·refine D_E rfl (go ?_);refine AL (out := [iV 2]) rfl U D0 (fun v p => ?_);have t := p.E;have m := n.trans t;refine wNl (A.trans m) ?_;refine D_E rfl (go ?_);refine AL (out := [iV 0]) rfl U D0 (fun s o => ?_);have q := o.E;have C := m.trans q;refine wNl (A.trans C) ?_;refine go ?_;exact G (v.heap.size, H.heap.size, F, g, M, z, l) _ _ ag ⟨A.trans C, (((a.ext t).ext q).mono fun _ _ => trivial), o.D, (p.D.E q O)⟩
  ·refine D_A rfl ?_ ?_
   ·refine go ?_;refine AL (out := [iV 0]) rfl U D0 (fun H o => ?_);have x := o.E;have n := I.trans x;refine wNl (A.trans n) ?_;refine D_A rfl ?_ ?_
    ·refine go ?_;refine AC (mgoal_ok H _ E _ (T.ext (A.trans n)) (show [drW].length ≤ 100 by simp) (W.ext (A.trans n)) (f.E (A.trans n) O) (Nat.le_trans X (A.trans n).size)) rfl ?_;rintro ug v ⟨t, a⟩;rw [w_goal] at a;obtain ⟨R, rfl, Q, -⟩ := a.cells;obtain ⟨F, g, M, z, l, rfl⟩ := AX Q;have m := n.trans t;refine wNl (A.trans m) ?_;refine D_E rfl (go ?_);refine AL (out := [iV 2]) rfl U D0 (fun s p => ?_);have q := p.E;have C := m.trans q;refine wNl (A.trans C) ?_;refine go ?_;exact G (K.heap.size, v.heap.size, F, g, M, z, l) _ _ ag ⟨A.trans C, ((a.ext q).mono fun _ _ => trivial), ((o.D.E t O).E q O), p.D⟩
    ·refine D_E rfl (go ?_);refine AL (out := [iV 2]) rfl U D0 (fun v p => ?_);have t := p.E;have m := n.trans t;refine wNl (A.trans m) ?_;refine go ?_;refine D_E rfl (go ?_);refine AC (mgoal_ok v _ E _ (T.ext (A.trans m)) (show [drW].length ≤ 100 by simp) (W.ext (A.trans m)) (f.E (A.trans m) O) (Nat.le_trans X (A.trans m).size)) rfl ?_;rintro ug s ⟨q, a⟩;rw [w_goal] at a;obtain ⟨R, rfl, Q, -⟩ := a.cells;obtain ⟨F, g, M, z, l, rfl⟩ := AX Q;have C := m.trans q;refine wNl (A.trans C) ?_;exact G (K.heap.size, H.heap.size, F, g, M, z, l) _ _ ag ⟨A.trans C, (a.mono fun _ _ => trivial), ((o.D.E t O).E q O), (p.D.E q O)⟩
   ·refine D_E rfl (go ?_);refine AL (out := [iV 2]) rfl U D0 (fun H p => ?_);have x := p.E;have n := I.trans x;refine wNl (A.trans n) ?_;refine D_A rfl ?_ ?_
    ·refine go ?_;refine AC (mgoal_ok H _ E _ (T.ext (A.trans n)) (show [drW].length ≤ 100 by simp) (W.ext (A.trans n)) (f.E (A.trans n) O) (Nat.le_trans X (A.trans n).size)) rfl ?_;rintro ug v ⟨t, a⟩;rw [w_goal] at a;obtain ⟨R, rfl, Q, -⟩ := a.cells;obtain ⟨F, g, M, z, l, rfl⟩ := AX Q;have m := n.trans t;refine wNl (A.trans m) ?_;refine D_E rfl (go ?_);refine AL (out := [iV 0]) rfl U D0 (fun s o => ?_);have q := o.E;have C := m.trans q;refine wNl (A.trans C) ?_;refine go ?_;exact G (v.heap.size, K.heap.size, F, g, M, z, l) _ _ ag ⟨A.trans C, ((a.ext q).mono fun _ _ => trivial), o.D, ((p.D.E t O).E q O)⟩
    ·refine D_E rfl (go ?_);refine AL (out := [iV 0]) rfl U D0 (fun v o => ?_);have t := o.E;have m := n.trans t;refine wNl (A.trans m) ?_;refine go ?_;refine D_E rfl (go ?_);refine AC (mgoal_ok v _ E _ (T.ext (A.trans m)) (show [drW].length ≤ 100 by simp) (W.ext (A.trans m)) (f.E (A.trans m) O) (Nat.le_trans X (A.trans m).size)) rfl ?_;rintro ug s ⟨q, a⟩;rw [w_goal] at a;obtain ⟨R, rfl, Q, -⟩ := a.cells;obtain ⟨F, g, M, z, l, rfl⟩ := AX Q;have C := m.trans q;refine wNl (A.trans C) ?_;exact G (H.heap.size, K.heap.size, F, g, M, z, l) _ _ ag ⟨A.trans C, (a.mono fun _ _ => trivial), (o.D.E q O), ((p.D.E t O).E q O)⟩
 rintro ⟨g1, g2, F, g, M, z, l⟩ f' V ⟨eV, fg, a8, a9⟩;simp only at fg a8 a9;have a5 := a0.trans eV;have c5 : LasG V [.slice (sm g1) 1 1, .slice (sm g2) 1 1] [0] [2] := ⟨_, _, _, _, rfl, ⟨_, 1, rfl, by simp, by omega, (fun h => by cases h), .inr ⟨g1, 0, rfl, trivial, a8.cells⟩⟩, ⟨_, 1, rfl, by simp, by omega, (fun h => by cases h), .inr ⟨g2, 0, rfl, trivial, a9.cells⟩⟩⟩;refine D_E rfl (go ?_);refine AC (wholds_ok V P L spcW.sigs _ owW _ [0] [2] (b6.ext eV) w_valid fg w_lk c5 O O O (by rw [w_num]; simp) (by rw [w_num]; simp) (D.ext a5) (Z.E a5 O) (Nat.le_trans hN a5.size)) rfl ?_;rintro _ wb ⟨rfl, kb⟩;have j := eV.trans kb;have c7 : tv (sem (wdG spcW.sigs ([0] ++ [2]) ([0] : List Int).length ([2] : List Int).length) owW 0) = true := tv_iff.2 ow_yes;rw [c7];refine wNl j ?_;have S : Ext wb wb := Ext.refl wb;refine go ?_
 refine D_leaf (α := Nat × Value × Value × Value × Value × Value) (.alt 32 (rd 33 3 .done) .stop) (fun u => [(67, .bool true), (69, .slice P spcW.sigs.length L), (71, .agg [u.2.1, u.2.2.1, u.2.2.2.1, u.2.2.2.2.1, u.2.2.2.2.2].toArray), (73, .agg [.slice none 0 0, .slice (sm u.1) 1 1].toArray)])
  (fun u V => Ext K V ∧ FAt AZ V (.agg [u.2.1, u.2.2.1, u.2.2.2.1, u.2.2.2.2.1, u.2.2.2.2.2].toArray) owW ∧ Blk V u.1 3 [iV 1]) ?_ (fun G => ?_)
 rotate_left
 ·refine id ?_;refine D_A rfl ?_ ?_
  ·refine go ?_;refine AC (mgoal_ok wb _ E _ (T.ext (j.trans S)) (show [drW].length ≤ 100 by simp) (W.ext (j.trans S)) (f.E (j.trans S) O) (Nat.le_trans X (j.trans S).size)) rfl ?_;rintro ug B1 ⟨a7, a⟩;rw [w_goal] at a;obtain ⟨R, rfl, Q, -⟩ := a.cells;obtain ⟨F, g, M, z, l, rfl⟩ := AX Q;have B := S.trans a7;refine wNl (j.trans B) ?_;refine D_E rfl (go ?_);refine AL (out := [iV 1]) rfl U D0 (fun B2 a1 => ?_);have i := a1.E;have b := B.trans i;refine wNl (j.trans b) ?_;refine go ?_;exact G (B1.heap.size, F, g, M, z, l) _ _ ag ⟨j.trans b, ((a.ext i).mono fun _ _ => trivial), a1.D⟩
  ·refine D_E rfl (go ?_);refine AL (out := [iV 1]) rfl U D0 (fun B1 a1 => ?_);have a7 := a1.E;have B := S.trans a7;refine wNl (j.trans B) ?_;refine go ?_;refine D_E rfl (go ?_);refine AC (mgoal_ok B1 _ E _ (T.ext (j.trans B)) (show [drW].length ≤ 100 by simp) (W.ext (j.trans B)) (f.E (j.trans B) O) (Nat.le_trans X (j.trans B).size)) rfl ?_;rintro ug B2 ⟨i, a⟩;rw [w_goal] at a;obtain ⟨R, rfl, Q, -⟩ := a.cells;obtain ⟨F, g, M, z, l, rfl⟩ := AX Q;have b := B.trans i;refine wNl (j.trans b) ?_;exact G (wb.heap.size, F, g, M, z, l) _ _ ag ⟨j.trans b, (a.mono fun _ _ => trivial), (a1.D.E i O)⟩
 rintro ⟨g3, F, g, M, z, l⟩ f' V3 ⟨eV3, b1, b0⟩;simp only at b1 b0;have a2 := a0.trans eV3;have c6 : LasG V3 [.slice none 0 0, .slice (sm g3) 1 1] [] [1] := ⟨_, _, _, _, rfl, ⟨_, 0, rfl, by simp, by omega, (fun h => rfl), .inl rfl⟩, ⟨_, 1, rfl, by simp, by omega, (fun h => by cases h), .inr ⟨g3, 0, rfl, trivial, b0.cells⟩⟩⟩;refine D_E rfl (go ?_);refine AC (wholds_ok V3 P L spcW.sigs _ owW _ [] [1] (b6.ext eV3) w_valid b1 w_lk c6 O O O O (by rw [w_num]; simp) (D.ext a2) (Z.E a2 O) (Nat.le_trans hN a2.size)) rfl ?_;rintro _ wc ⟨rfl, kc⟩
 have c8 : tv (sem (wdG spcW.sigs ([] ++ [1]) ([] : List Int).length ([1] : List Int).length) owW 0) = false := by
  cases hq : tv (sem (wdG spcW.sigs ([] ++ [1]) ([] : List Int).length ([1] : List Int).length) owW 0) with
  | false => rfl
  | true => exact absurd (tv_iff.1 hq) ow_no
 rw [c8];refine wNl (eV3.trans kc) ?_;refine go ?_;exact AA rfl ⟨rfl, a2.trans kc⟩
end Go.Proofs.YtohodbnnhlddpaaGreatDoor
