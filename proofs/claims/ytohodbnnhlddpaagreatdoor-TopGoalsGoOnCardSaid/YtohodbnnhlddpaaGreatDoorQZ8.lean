/- TopGoalsGoOn, part 8 of 16: rules, lemmas, walks. Conditions: none. -/
import Derived.Test.YtohodbnnhlddpaaGreatDoorQZ7
import Derived.Test.YtohodbnnhlddpaaGreatDoorShq
namespace Go.Proofs.YtohodbnnhlddpaaGreatDoor
open Go.RowKit
set_option linter.unusedVariables false
section
variable {mk : Prop} [MK mk]
theorem cmpL_cons0 {x y : Fml} {l m : LF} (h : BO x y = 0) : cmpL (x :: l) (y :: m) = cmpL l m := by rw [cmpL, Cc h]
theorem Dh (a b c : Int) : Bn (Bn a b) c = Bn a (Bn b c) := by
 unfold Bn;by_cases h : a = 0
 ·rw [if_pos h, if_pos h]
 ·rw [if_neg h, if_neg h, if_neg h]
structure CI (w : World) (okf okg : Nat → Prop) (N : Nat) (r : Int) (x : Nat × Nat × List PP) (W : World) : Prop where
 cs : ∃ e L rest, CS okf okg w.heap.size W x.1 x.2.1 e L rest x.2.2
 ext : Ext w W
 res : r = cmpSt x.2.2.reverse
 wt : wtSt x.2.2 ≤ N
theorem PF.op {ok : Nat → Prop} {w : World} {b o : Nat} {f : Fml} (h : PF ok w b o f) : w.cell? ⟨b, o + 0, none⟩ = some (iV f.op) := by
 obtain ⟨_, a, c, L, T, _⟩ := h.form;exact T 0 _ rfl
theorem Cr (ps : List PP) (p : PP) : cmpSt (ps ++ [p]).reverse = Bn (cmpL p.1 p.2) (cmpSt ps.reverse) := by simp [cmpSt]
theorem cell_same {w W V : World} {b o : Nat} {v : Value} (k : Ext w W) (H : Ext w V) (S : b < w.heap.size) (h : W.cell? ⟨b, o, none⟩ = some v) : V.cell? ⟨b, o, none⟩ = some v := by
 have d := k.block b S O;have x := H.block b S O;unfold World.cell? at h ⊢;rw [x, ← d];exact h
set_option maxHeartbeats 6400000 in
theorem fcompare_ok (w : World) (v v' : Value) (f g : Fml) (a7 a8 : Nat → Prop) (hf : FAt a7 w v f) (hg : FAt a8 w v' g) (t : (∀ b, a7 b → Unm w b) ∨ (∀ b, a8 b → Unm w b)) (hz : szF f ≤ 1000000) :
  Fn Zp 16 [v, v'] w fun r w' => r = iV (BO f g) ∧ Ext w w' := by
 obtain ⟨av, rfl, Lf, hSf, hFf⟩ := hf.form;obtain ⟨bv, rfl, Lg, e6, c7⟩ := hg.form;obtain ⟨a, c, rfl, _⟩ := id hSf;obtain ⟨a', c', rfl, _⟩ := id e6;have e5 := hSf.lt (flatten_ne hFf.1 hFf.2.1);have e7 := e6.lt (flatten_ne c7.1 c7.2.1);have g5 := hf.lt;have g6 := hg.lt;refine AG Tryz.func16 rfl Tryz.ntmps16 ?_;repeat refine nx rfl ?_
 (refine AJ ?_; refine Aj (L := fcC f (.slice a f.args.length c)) rfl (fun w1 n1 => ?_))
 refine Aj (L := fcC g (.slice a' g.args.length c')) rfl (fun w2 n2 => ?_);have b1 := n1.D.E n2.E O;have b2 := n2.D;have z1 := n1.size;have z2 := n2.size;have k2 : Ext w w2 := n1.E.trans n2.E;refine Ac (Af rfl ?_);repeat refine nx rfl ?_
 have pf : PF AZ w2 w.heap.size 0 f := ⟨trivial, fcC f _, rfl, b1.cells, ((hf.ext k2).mono fun _ _ => trivial)⟩;have pg : PF AZ w2 w1.heap.size 0 g := ⟨trivial, fcC g _, rfl, b2.cells, ((hg.ext k2).mono fun _ _ => trivial)⟩;refine AJ ?_;refine AC (cmpNodes_ok w2 _ _ _ _ f g pf pg) rfl ?_;rintro _ R ⟨rfl, k3⟩;refine Ac (Af rfl ?_);repeat refine nx rfl ?_
 have e4 : R.cell? ⟨w.heap.size, 0 + 4, none⟩ = some (.slice a f.args.length c) := (b1.E k3 O).cell rfl;have e3 : R.cell? ⟨w1.heap.size, 0 + 4, none⟩ = some (.slice a' g.args.length c') := (b2.E k3 O).cell rfl;have a9 : Ext w R := k2.trans k3;generalize b8 : cmpN f g = cn;have hsp := cmpF_split f g;rw [b8] at hsp;by_cases b9 : cn = 0;rotate_left
 ·(refine AJ (Af rfl ?_) <;> (refine W_neq rfl rfl (fun T => ?_) (fun T => ?_) <;> try omega) <;> refine AP rfl (Ax rfl (Ax rfl (Ax rfl (Ax rfl (A4 rfl (AP rfl ?_)))))))
  repeat refine nx rfl ?_
  refine AJ (Af rfl (Ac (Af rfl ?_)));repeat refine nx rfl ?_
  exact AA rfl ⟨congrArg (iV) (by rw [hsp, thenI_ne b9]), a9⟩
 rw [Cc b9] at hsp;by_cases h0 : f.args.length = 0
 ·(refine AJ (Af rfl ?_) <;> (refine W_neq rfl rfl (fun T => ?_) (fun T => ?_) <;> try omega) <;> refine AP rfl (AS rfl (AF rfl (AS rfl (AM rfl Do ?_)))) <;> refine AS rfl (CD rfl ?_) <;> (refine AS rfl ?_; (refine W_eql rfl rfl (fun T => ?_) (fun T => ?_) <;> try omega)) <;> refine Au rfl (AP rfl ?_))
  repeat refine nx rfl ?_
  refine AJ (Af rfl (Ac (Af rfl ?_)));repeat refine nx rfl ?_
  refine AA rfl ⟨congrArg (iV) ?_, a9⟩;rw [hsp, List.length_eq_zero_iff.1 h0, b9];cases g.args <;> rfl
 (refine AJ (Af rfl ?_) <;> (refine W_neq rfl rfl (fun T => ?_) (fun T => ?_) <;> try omega) <;> refine AP rfl (AS rfl (AF rfl (AS rfl (AM rfl Do ?_)))) <;> refine AS rfl (CD rfl ?_) <;> (refine AS rfl ?_; (refine W_eql rfl rfl (fun T => ?_) (fun T => ?_) <;> try omega)) <;> refine Au rfl (AP rfl ?_))
 repeat first | refine nx rfl ?_ | refine nf rfl ?_
 have g4 : f.args.length = g.args.length := by
  unfold cmpN at b8;rw [b9] at b8;simp only [thenI_zero, cmpI_zero] at b8;omega
 refine AJ ?_;refine AQ (fun w4 n4 => ?_);repeat refine nx rfl ?_
 have z4 := n4.size;have z3 := k3.size;have h9 := a9.trans n4.E;have e1 : ∀ W, Ext w W → FL (fun b => a7 b ∧ b < w.heap.size) W (.slice a f.args.length c) f.args := fun W k => ⟨a, c, Lf, rfl, e5.ext k, (FsAt.lt hFf).E k O⟩;have FLg : ∀ W, Ext w W → FL (fun b => a8 b ∧ b < w.heap.size) W (.slice a' g.args.length c') g.args := fun W k => ⟨a', c', Lg, rfl, e7.ext k, (FsAt.lt c7).E k O⟩
 have e8 : (∀ W, Ext w W → ∀ b, a7 b ∧ b < w.heap.size → Unm W b) ∨ (∀ W, Ext w W → ∀ b, a8 b ∧ b < w.heap.size → Unm W b) := by
  rcases t with t | t
  ·exact .inl fun W k b S => (t b S.1).eq (k.block b S.2 O)
  ·exact .inr fun W k b S => (t b S.1).eq (k.block b S.2 O)
 clear g5 g6 e5 e7 pf pg;refine AW (rd 0 6 (.alt 6 (.alt 7 (.read 8 .done) .stop) .stop)) Al Dk (fun K N ed => ⟨Ext R, ?_, ?_⟩)
 ·exact n4.E.trans N
 have qa : ∀ W, Ext R W → W.cell? ⟨w.heap.size, 0 + 4, none⟩ = some (.slice a f.args.length c) := fun W e => e.cell e4 O;have qb : ∀ W, Ext R W → W.cell? ⟨w1.heap.size, 0 + 4, none⟩ = some (.slice a' g.args.length c') := fun W e => e.cell e3 O;(apply D_R rfl rfl; (intro W B; (refine W_slice_arr_h rfl rfl U U ?_); exact AH ⟨rfl, rfl, rfl⟩))
 (refine D_R rfl rfl (fun W B => AF rfl Z3) (D_R rfl rfl (fun W B => AM rfl (qa W B) Z3) (D_R rfl rfl (fun W B => AF rfl Z3) (D_R rfl rfl (fun W B => AM rfl (qb W B) Z3) ?_))) <;> (apply D_R rfl rfl; (intro W B; refine Bo Dn Dn ?_; exact Z3)))
 refine D_E rfl ?_;refine AL (out := [.slice a f.args.length c, .slice a' g.args.length c']) rfl U Dk (fun w5 n5 => ?_);have z5 := n5.size;have zd := N.size;refine AH ⟨Ext R, fun _ e => e, (n4.E.trans N).trans n5.E, ?_⟩;have b5 := (n4.D.E N O).E n5.E O;have f5 := (n4.E.trans N).trans n5.E;refine D_E rfl ?_
 refine W_append1 (size := 2) (n := 0) (cap := 8) (g := R.heap.size) (sv := .slice (sm K.heap.size) 1 1) (ok := AZ) (cs := [.slice a f.args.length c, .slice a' g.args.length c']) rfl rfl b5 Dn U Dt
  ⟨_, _, rfl, by omega, by omega, (fun h => by cases h), .inr ⟨_, _, rfl, trivial, n5.D.cells⟩⟩ Dt rfl rfl EH U U (fun g' f8 e' cur' w6 g1 e9 g9 h4 g8 f4 k6 => ?_)
 have c0 : CS (fun b => a7 b ∧ b < w.heap.size) (fun b => a8 b ∧ b < w.heap.size) w.heap.size w5 R.heap.size 8 _ [] _ [] := ⟨by omega, b5, rfl, by decide, (fun c T => by cases T), rfl, (fun i c p T => by simp at T), fun b S => by rcases S with S | S <;> exact S.2⟩;have b6 : Ext R w6 := f5.E k6 O;have c6 := c0.push U g1 e9 g9 g8 f4 k6 (e1 w6 (a9.trans b6)) (FLg w6 (a9.trans b6)) g4;refine AH ⟨Ext R, fun _ e => e, b6, ?_⟩;refine D_R rfl rfl (fun W B => Ac (Az rfl Z3)) (Cb ?_);repeat refine nx rfl ?_
 have h8 := Bd f
 refine Ah (α := Nat × Nat × List PP) (fun x => [(7, .slice (sm x.1) x.2.2.length x.2.1)]) (CI w (fun b => a7 b ∧ b < w.heap.size) (fun b => a8 b ∧ b < w.heap.size) 2000001 (BO f g)) (fun x => wtSt x.2.2) (g', f8, [(f.args, g.args)]) ⟨rfl, trivial⟩
  ⟨⟨_, _, _, c6⟩, a9.trans b6, by rw [hsp]; simp [cmpSt, Bn], by simp [wtSt]; omega⟩ ?_
 clear c6 c0 b6 f5 e9 f4 k6 e1 FLg b5 n5 n4 T qa qb e4 e3 N;rintro ⟨Q, s, ps⟩ W f3 hI;obtain ⟨⟨e, L, i0, H⟩, kW, z, hwt⟩ := hI;simp only at H z hwt ⊢;repeat refine nx rfl ?_
 by_cases hp0 : ps.length = 0
 ·have e0 : ps = [] := List.length_eq_zero_iff.1 hp0;subst e0;(refine AJ (Az rfl (CD rfl ?_)) <;> (refine W_gtr rfl rfl (fun T => ?_) (fun T => ?_) <;> try omega))
  repeat first | refine nx rfl ?_ | refine nf rfl ?_
  refine AJ (Ac (Af rfl ?_));repeat refine nx rfl ?_
  exact AA rfl ⟨congrArg (iV) (by rw [z]; rfl), kW⟩
 obtain ⟨L', F, v, v', l, m, rfl, rfl, hl, A, f1⟩ := H.split U;obtain ⟨x0, x1, h6⟩ := H.cells;have hle := H.le;have g7 := H.lo;have f0 := H.ge
 have G : ∀ b, (a7 b ∧ b < w.heap.size) ∨ (a8 b ∧ b < w.heap.size) → b ∉ [Q] := fun b S A => by
  have := g7 b S; simp at A; omega
 have h5 := wtSt_len F;rw [Cr] at z;rw [BB] at hwt;simp only [List.length_append, List.length_singleton] at hle ⊢;simp only at z hwt;clear hp0;(refine AJ (Az rfl (CD rfl ?_)) <;> (refine W_gtr rfl rfl (fun T => ?_) (fun T => ?_) <;> try omega))
 repeat refine nx rfl ?_
 refine AJ (Az rfl (Az rfl (CD rfl (W_sub rfl rfl Du ?_))));refine C5 (k := F.length) rfl rfl U U ?_;refine Ac (Ag rfl ?_);repeat refine nx rfl ?_
 cases l with
 | nil =>
  obtain ⟨a0, c0, rfl⟩ := hl.form;have h3 : ([] : LF).length = 0 := rfl;(refine AJ (Ag rfl (AK rfl (AF rfl (AM rfl Do ?_)))) <;> refine CD rfl ?_ <;> (refine W_eql rfl rfl (fun T => ?_) (fun T => ?_) <;> try omega))
  repeat refine nx rfl ?_
  refine AJ (Az rfl (Az rfl (CD rfl (W_sub rfl rfl Du ?_))));refine W_slice_h rfl rfl U U ?_;rw [show ((((F.length + 1 : Nat) : Int) - 1).toNat) = F.length by omega];refine Ac (Az rfl ?_);repeat refine nx rfl ?_
  refine ⟨(Q, s, F), ⟨rfl, ⟨rfl, trivial⟩, ⟨⟨_, _, _, H.cut⟩, kW, ?_, by simp only; omega⟩⟩, by simp only; rw [BB]; omega⟩;simp only;rw [z];rfl
 | cons x l =>
  cases m with
  | nil => simp at f1
  | cons y m =>
   obtain ⟨d, M, cx, rfl, h1, hx, tx⟩ := hl.cons;obtain ⟨E, D, cy, rfl, h2, hy, ty⟩ := A.cons;have f2 : l.length = m.length := by simpa using f1
   have h7 := Bd x;simp only [szL] at hwt;(refine AJ (Ag rfl (AK rfl (AF rfl (AM rfl Do ?_)))) <;> refine CD rfl ?_ <;> (refine W_eql rfl rfl (fun T => ?_) (fun T => ?_) <;> try omega))
   repeat first | refine nx rfl ?_ | refine nf rfl ?_
   refine AW (rd 0 12 .done) Al Dk (fun K N ed => ⟨Ext K, ?_, ?_⟩)
   ·exact EZ
   have f6 : ∀ V, Ext K V → V.cell? ⟨Q, 0 + F.length * 2 + 0, none⟩ = some (.slice (some ⟨d, M, none⟩) (l.length + 1) cx) := fun V e => (N.trans e).cell x0 O;have f7 : ∀ V, Ext K V → V.cell? ⟨Q, 0 + F.length * 2 + 1, none⟩ = some (.slice (some ⟨E, D, none⟩) (m.length + 1) cy) := fun V e => (N.trans e).cell x1 O;refine D_R rfl rfl (fun W B => Ag rfl Z3) (D_R rfl rfl (fun W B => AK rfl Z3) (D_R rfl rfl (fun W B => AF rfl Z3) (D_R rfl rfl (fun W B => AM rfl (f6 W B) Z3) ?_)));(apply D_R rfl rfl; (intro W B; refine C5 (k := 0) rfl rfl rfl U ?_; exact AH ⟨rfl, rfl, rfl⟩))
   refine D_R rfl rfl (fun W B => Ag rfl Z3) (D_R rfl rfl (fun W B => AK rfl Z3) (D_R rfl rfl (fun W B => AF rfl Z3) (D_R rfl rfl (fun W B => AM rfl (f7 W B) Z3) ?_)));(apply D_R rfl rfl; (intro W B; refine C5 (k := 0) rfl rfl rfl U ?_; exact AH ⟨rfl, rfl, rfl⟩))
   refine D_R rfl rfl (fun W B => Ac (Ag rfl Z3)) (D_R rfl rfl (fun W B => Ac (Ag rfl Z3)) (Cb ?_));repeat refine nx rfl ?_
   have kA := N;clear N f6 f7;refine AW (rd 0 5 (rd 7 3 (.alt 5 (.read 6 (.alt 10 (rd 11 3 (.alt 14 (.read 15 (.read 16 (.alt 17 .done .stop))) .stop)) .stop)) (.alt 10 (.read 11 (.alt 5 (.read 6 (.read 12 (.read 13 (.alt 14 (.read 15 (.read 16 (.alt 17 .done .stop))) .stop)))) .stop)) .stop)))) Al Dk (fun K N ed => ⟨fun _ => True, ?_, ?_⟩)
   ·trivial
   have kAD := kA.trans N;have kD : Keep [Q] W K := kAD.any;have bd := H.D.E kAD O;have y0 := kAD.cell x0 O;have y1 := kAD.cell x1 O;refine D_R rfl rfl (fun W B => Ag rfl Z3) (D_R rfl rfl (fun W B => Ag rfl Z3) (D_R rfl rfl (fun W B => Ag rfl Z3) (D_R rfl rfl (fun W B => AK rfl Z3) (D_R rfl rfl (fun W B => AF rfl Z3) (D_R rfl rfl (fun W B => Ag rfl Z3) (D_R rfl rfl (fun W B => AK rfl Z3) (D_R rfl rfl (fun W B => AF rfl Z3) ?_)))))));refine D_A rfl ?_ (D_E rfl ?_)
   ·refine AM rfl y0 ?_;refine wNl trivial ?_;((apply D_R rfl rfl; (intro W B; refine W_slice_l rfl rfl U U ?_; exact AH ⟨rfl, rfl, rfl⟩)))
    refine D_E rfl ?_;refine AM rfl y1 ?_;refine wNl trivial ?_;refine D_R rfl rfl (fun W B => W_slice_l rfl rfl U U Z3) (D_R rfl rfl (fun W B => AK rfl Z3) (D_R rfl rfl (fun W B => AF rfl Z3) ?_));refine D_E rfl ?_;refine AN rfl rfl rfl bd U (fun wA pA => ?_);refine wNl trivial ?_;refine D_R rfl rfl (fun W B => AK rfl Z3) (D_R rfl rfl (fun W B => AF rfl Z3) ?_);refine D_E rfl ?_;refine AN rfl rfl rfl pA.D (by rw [List.length_set]; omega) (fun P pB => ?_);refine wNl trivial ?_;refine Cb ?_;repeat refine nx rfl ?_
    have kB : Keep [Q] W P := (kD.trans pA.E O).trans pB.E O;have hB := H.put kB pB.D (tx.E kB fun b S A => G b (.inl S) A) (ty.E kB fun b S A => G b (.inr S) A) f2;have a3 : Ext w P := kW.E kB (by simp; exact H.ge);have o := hx.E kB fun b S A => G b (.inl S) A;have q := hy.E kB fun b S A => G b (.inr S) A;obtain ⟨ca, ta, fa, b3, c8, _⟩ := cell_blk o.op;obtain ⟨cb, tb, fb, b4, c9, _⟩ := cell_blk q.op
    have d7 : fa = (0, 0) ∨ fb = (0, 0) := by
     rcases e8 with hU | hU
     ·obtain ⟨c1, t1, X, _⟩ := unm_blk (hU P a3 d o.1) o.op;rw [b3] at X; cases X; exact .inl rfl
     ·obtain ⟨c1, t1, X, _⟩ := unm_blk (hU P a3 E q.1) q.op;rw [b4] at X; cases X; exact .inr rfl
    refine AJ (Ag rfl (Ag rfl ?_));refine W_ptrEq (a := ⟨d, M + 0 * 5, none⟩) (b := ⟨E, D + 0 * 5, none⟩) rfl rfl b3 b4 d7 c8 c9 ?_;refine AH ?_;by_cases a4 : (⟨d, M + 0 * 5, none⟩ : Addr) = ⟨E, D + 0 * 5, none⟩
    ·rw [decide_eq_true a4];repeat refine nx rfl ?_
     obtain ⟨rfl, rfl⟩ : d = E ∧ M = D := by
      have := Addr.mk.inj a4;exact ⟨this.1, by have := this.2.1; omega⟩
     have d8 := o.uniq q;refine ⟨(Q, s, F ++ [(l, m)]), ⟨rfl, ⟨congrArg (fun n => Value.slice (sm Q) n s) O, trivial⟩, ⟨⟨_, _, _, hB⟩, a3, ?_, by simp only; rw [BB]; simp only; omega⟩⟩, by simp only; rw [BB, BB]; simp only [szL]; omega⟩;simp only;rw [Cr, z, cmpL_cons0 ((CL x y).2 d8)]
    ·rw [decide_eq_false a4];repeat first | refine nx rfl ?_ | refine nf rfl ?_
     refine AJ (Ag rfl (Ag rfl ?_));refine AC (cmpNodes_ok P d _ E _ x y (o.mono fun _ _ => trivial) (q.mono fun _ _ => trivial)) rfl ?_;rintro _ wC ⟨rfl, kC⟩;refine Ac (Af rfl ?_);repeat refine nx rfl ?_
     have C := a3.trans kC;have hC := hB.ext kC;have d9 := o.E kC O;have pyC := q.E kC O;generalize a1 : cmpN x y = cn2;have I := cmpF_split x y;rw [a1] at I;by_cases a5 : cn2 = 0;rotate_left
     ·exact Ek
     rw [Cc a5] at I
     have d2 : x.args.length = y.args.length := by
      unfold cmpN at a1;rw [a5] at a1;simp only [thenI_zero, cmpI_zero] at a1;omega
     (refine AJ (Af rfl ?_) <;> (refine W_neq rfl rfl (fun T => ?_) (fun T => ?_) <;> try omega))
     repeat first | refine nx rfl ?_ | refine nf rfl ?_
     obtain ⟨vx, c2, fvx⟩ := d9.args;obtain ⟨vy, c4, fvy⟩ := pyC.args;obtain ⟨Z, j, rfl⟩ := fvx.form;obtain ⟨ay, cyy, rfl⟩ := fvy.form;have c3 : wC.cell? ⟨d, M + 0 * 5 + 4, none⟩ = some (.slice Z x.args.length j) := c2;have c5 : wC.cell? ⟨E, D + 0 * 5 + 4, none⟩ = some (.slice ay y.args.length cyy) := c4;by_cases g0 : 0 < x.args.length
     ·(refine AJ (Ag rfl (AK rfl (AF rfl (AM rfl Do ?_)))) <;> refine CD rfl ?_ <;> (refine W_gtr rfl rfl (fun T => ?_) (fun T => ?_) <;> try omega))
      repeat refine nx rfl ?_
      refine AW (rd 0 10 (.alt 10 (.alt 11 (.read 12 .done) .stop) .stop)) Al Dk (fun K N ed => ⟨Ext w, ?_, ?_⟩)
      ·exact C.trans N
      have qp : ∀ V, Ext w V → V.cell? ⟨d, M + 0 * 5 + 4, none⟩ = some (.slice Z x.args.length j) := fun V e => cell_same C e o.1.2 c3;have qq : ∀ V, Ext w V → V.cell? ⟨E, D + 0 * 5 + 4, none⟩ = some (.slice ay y.args.length cyy) := fun V e => cell_same C e q.1.2 c5;(refine D_R rfl rfl (fun W B => Az rfl Z3) (D_R rfl rfl (fun W B => Ag rfl Z3) (D_R rfl rfl (fun W B => AK rfl Z3) (D_R rfl rfl (fun W B => AF rfl Z3) (D_R rfl rfl (fun W B => AM rfl (qp W B) Z3) (D_R rfl rfl (fun W B => Ag rfl Z3) (D_R rfl rfl (fun W B => AK rfl Z3) (D_R rfl rfl (fun W B => AF rfl Z3) (D_R rfl rfl (fun W B => AM rfl (qq W B) Z3) ?_)))))))) <;> (apply D_R rfl rfl; (intro W B; refine Bo Dn Dn ?_; exact Z3)))
      refine D_E rfl ?_;refine AL (out := [.slice Z x.args.length j, .slice ay y.args.length cyy]) rfl U Dk (fun wE nE => ?_);have a2 := N.trans nE.E;have a6 := C.trans a2;have hE := hC.ext a2;refine AH ⟨Ext w, fun _ e => e, a6, ?_⟩;have d4 : (F ++ [(l, m)]).length = F.length + 1 := by simp
      refine D_E rfl ?_
      refine W_append1 (size := 2) (n := F.length + 1) (cap := s) (g := Q) (sv := .slice (sm K.heap.size) 1 1) (ok := AZ) (cs := [.slice Z x.args.length j, .slice ay y.args.length cyy]) rfl rfl hE.D (by rw [List.size_toArray]; exact hE.len) U hE.mx
       ⟨_, _, rfl, by omega, by omega, (fun h => by cases h), .inr ⟨_, _, rfl, trivial, nE.D.cells⟩⟩ Dt rfl rfl EH U U (fun g2 b0 e2 f9 wF d1 d0 d5 g3 d3 d6 kF => ?_)
      have hF := hE.push a6.size d1 d0 d5 d3 (by rw [d4]; simpa using d6) kF (fvx.E (a2.any.trans kF O) fun b S A => G b (.inl S) A) (fvy.E (a2.any.trans kF O) fun b S A => G b (.inr S) A) d2;have b7 := a6.E kF (by simp; exact f0);refine AH ⟨Ext w, fun _ e => e, b7, ?_⟩;refine D_R rfl rfl (fun W B => Ac (Az rfl Z3)) (Cb ?_);repeat refine nx rfl ?_
      refine ⟨(g2, b0, F ++ [(l, m)] ++ [(x.args, y.args)]), ⟨rfl, ⟨congrArg (fun n => Value.slice (sm g2) n b0) O, trivial⟩, ⟨⟨_, _, _, hF⟩, b7, ?_, by simp only; rw [BB, BB]; simp only; omega⟩⟩, by simp only; rw [BB, BB, BB]; simp only [szL]; omega⟩;simp only;rw [Cr, Cr, z, cmpL, I, Dh]
     ·(refine AJ (Ag rfl (AK rfl (AF rfl (AM rfl Do ?_)))) <;> refine CD rfl ?_ <;> (refine W_gtr rfl rfl (fun T => ?_) (fun T => ?_) <;> try omega))
      repeat first | refine nx rfl ?_ | refine nf rfl ?_
      have ex : x.args = [] := List.length_eq_zero_iff.1 U;have ez : BO x y = 0 := by rw [I, ex]; cases y.args <;> rfl
      refine ⟨(Q, s, F ++ [(l, m)]), ⟨rfl, ⟨congrArg (fun n => Value.slice (sm Q) n s) O, trivial⟩, ⟨⟨_, _, _, hC⟩, C, ?_, by simp only; rw [BB]; simp only; omega⟩⟩, by simp only; rw [BB, BB]; simp only [szL]; omega⟩;simp only;rw [Cr, z, cmpL_cons0 ez]
   ·refine AM rfl y1 ?_;refine wNl trivial ?_;((apply D_R rfl rfl; (intro W B; refine W_slice_l rfl rfl U U ?_; exact AH ⟨rfl, rfl, rfl⟩)))
    refine D_E rfl ?_;refine AM rfl y0 ?_;refine wNl trivial ?_;refine D_R rfl rfl (fun W B => W_slice_l rfl rfl U U Z3) (D_R rfl rfl (fun W B => AK rfl Z3) (D_R rfl rfl (fun W B => AF rfl Z3) ?_));refine D_E rfl ?_;refine AN rfl rfl rfl bd U (fun wA pA => ?_);refine wNl trivial ?_;refine D_R rfl rfl (fun W B => AK rfl Z3) (D_R rfl rfl (fun W B => AF rfl Z3) ?_);refine D_E rfl ?_;refine AN rfl rfl rfl pA.D (by rw [List.length_set]; omega) (fun P pB => ?_);refine wNl trivial ?_;refine Cb ?_;repeat refine nx rfl ?_
    have kB : Keep [Q] W P := (kD.trans pA.E O).trans pB.E O;have hB := H.put kB pB.D (tx.E kB fun b S A => G b (.inl S) A) (ty.E kB fun b S A => G b (.inr S) A) f2;have a3 : Ext w P := kW.E kB (by simp; exact H.ge);have o := hx.E kB fun b S A => G b (.inl S) A;have q := hy.E kB fun b S A => G b (.inr S) A;obtain ⟨ca, ta, fa, b3, c8, _⟩ := cell_blk o.op;obtain ⟨cb, tb, fb, b4, c9, _⟩ := cell_blk q.op
    have d7 : fa = (0, 0) ∨ fb = (0, 0) := by
     rcases e8 with hU | hU
     ·obtain ⟨c1, t1, X, _⟩ := unm_blk (hU P a3 d o.1) o.op;rw [b3] at X; cases X; exact .inl rfl
     ·obtain ⟨c1, t1, X, _⟩ := unm_blk (hU P a3 E q.1) q.op;rw [b4] at X; cases X; exact .inr rfl
    refine AJ (Ag rfl (Ag rfl ?_));refine W_ptrEq (a := ⟨d, M + 0 * 5, none⟩) (b := ⟨E, D + 0 * 5, none⟩) rfl rfl b3 b4 d7 c8 c9 ?_;refine AH ?_;by_cases a4 : (⟨d, M + 0 * 5, none⟩ : Addr) = ⟨E, D + 0 * 5, none⟩
    ·rw [decide_eq_true a4];repeat refine nx rfl ?_
     obtain ⟨rfl, rfl⟩ : d = E ∧ M = D := by
      have := Addr.mk.inj a4;exact ⟨this.1, by have := this.2.1; omega⟩
     have d8 := o.uniq q;refine ⟨(Q, s, F ++ [(l, m)]), ⟨rfl, ⟨congrArg (fun n => Value.slice (sm Q) n s) O, trivial⟩, ⟨⟨_, _, _, hB⟩, a3, ?_, by simp only; rw [BB]; simp only; omega⟩⟩, by simp only; rw [BB, BB]; simp only [szL]; omega⟩;simp only;rw [Cr, z, cmpL_cons0 ((CL x y).2 d8)]
    ·rw [decide_eq_false a4];repeat first | refine nx rfl ?_ | refine nf rfl ?_
     refine AJ (Ag rfl (Ag rfl ?_));refine AC (cmpNodes_ok P d _ E _ x y (o.mono fun _ _ => trivial) (q.mono fun _ _ => trivial)) rfl ?_;rintro _ wC ⟨rfl, kC⟩;refine Ac (Af rfl ?_);repeat refine nx rfl ?_
     have C := a3.trans kC;have hC := hB.ext kC;have d9 := o.E kC O;have pyC := q.E kC O;generalize a1 : cmpN x y = cn2;have I := cmpF_split x y;rw [a1] at I;by_cases a5 : cn2 = 0;rotate_left
     ·exact Ek
     rw [Cc a5] at I
     have d2 : x.args.length = y.args.length := by
      unfold cmpN at a1;rw [a5] at a1;simp only [thenI_zero, cmpI_zero] at a1;omega
     (refine AJ (Af rfl ?_) <;> (refine W_neq rfl rfl (fun T => ?_) (fun T => ?_) <;> try omega))
     repeat first | refine nx rfl ?_ | refine nf rfl ?_
     obtain ⟨vx, c2, fvx⟩ := d9.args;obtain ⟨vy, c4, fvy⟩ := pyC.args;obtain ⟨Z, j, rfl⟩ := fvx.form;obtain ⟨ay, cyy, rfl⟩ := fvy.form;have c3 : wC.cell? ⟨d, M + 0 * 5 + 4, none⟩ = some (.slice Z x.args.length j) := c2;have c5 : wC.cell? ⟨E, D + 0 * 5 + 4, none⟩ = some (.slice ay y.args.length cyy) := c4;by_cases g0 : 0 < x.args.length
     ·(refine AJ (Ag rfl (AK rfl (AF rfl (AM rfl Do ?_)))) <;> refine CD rfl ?_ <;> (refine W_gtr rfl rfl (fun T => ?_) (fun T => ?_) <;> try omega))
      repeat refine nx rfl ?_
      refine AW (rd 0 10 (.alt 10 (.alt 11 (.read 12 .done) .stop) .stop)) Al Dk (fun K N ed => ⟨Ext w, ?_, ?_⟩)
      ·exact C.trans N
      have qp : ∀ V, Ext w V → V.cell? ⟨d, M + 0 * 5 + 4, none⟩ = some (.slice Z x.args.length j) := fun V e => cell_same C e o.1.2 c3;have qq : ∀ V, Ext w V → V.cell? ⟨E, D + 0 * 5 + 4, none⟩ = some (.slice ay y.args.length cyy) := fun V e => cell_same C e q.1.2 c5;(refine D_R rfl rfl (fun W B => Az rfl Z3) (D_R rfl rfl (fun W B => Ag rfl Z3) (D_R rfl rfl (fun W B => AK rfl Z3) (D_R rfl rfl (fun W B => AF rfl Z3) (D_R rfl rfl (fun W B => AM rfl (qp W B) Z3) (D_R rfl rfl (fun W B => Ag rfl Z3) (D_R rfl rfl (fun W B => AK rfl Z3) (D_R rfl rfl (fun W B => AF rfl Z3) (D_R rfl rfl (fun W B => AM rfl (qq W B) Z3) ?_)))))))) <;> (apply D_R rfl rfl; (intro W B; refine Bo Dn Dn ?_; exact Z3)))
      refine D_E rfl ?_;refine AL (out := [.slice Z x.args.length j, .slice ay y.args.length cyy]) rfl U Dk (fun wE nE => ?_);have a2 := N.trans nE.E;have a6 := C.trans a2;have hE := hC.ext a2;refine AH ⟨Ext w, fun _ e => e, a6, ?_⟩;have d4 : (F ++ [(l, m)]).length = F.length + 1 := by simp
      refine D_E rfl ?_
      refine W_append1 (size := 2) (n := F.length + 1) (cap := s) (g := Q) (sv := .slice (sm K.heap.size) 1 1) (ok := AZ) (cs := [.slice Z x.args.length j, .slice ay y.args.length cyy]) rfl rfl hE.D (by rw [List.size_toArray]; exact hE.len) U hE.mx
       ⟨_, _, rfl, by omega, by omega, (fun h => by cases h), .inr ⟨_, _, rfl, trivial, nE.D.cells⟩⟩ Dt rfl rfl EH U U (fun g2 b0 e2 f9 wF d1 d0 d5 g3 d3 d6 kF => ?_)
      have hF := hE.push a6.size d1 d0 d5 d3 (by rw [d4]; simpa using d6) kF (fvx.E (a2.any.trans kF O) fun b S A => G b (.inl S) A) (fvy.E (a2.any.trans kF O) fun b S A => G b (.inr S) A) d2;have b7 := a6.E kF (by simp; exact f0);refine AH ⟨Ext w, fun _ e => e, b7, ?_⟩;refine D_R rfl rfl (fun W B => Ac (Az rfl Z3)) (Cb ?_);repeat refine nx rfl ?_
      refine ⟨(g2, b0, F ++ [(l, m)] ++ [(x.args, y.args)]), ⟨rfl, ⟨congrArg (fun n => Value.slice (sm g2) n b0) O, trivial⟩, ⟨⟨_, _, _, hF⟩, b7, ?_, by simp only; rw [BB, BB]; simp only; omega⟩⟩, by simp only; rw [BB, BB, BB]; simp only [szL]; omega⟩;simp only;rw [Cr, Cr, z, cmpL, I, Dh]
     ·(refine AJ (Ag rfl (AK rfl (AF rfl (AM rfl Do ?_)))) <;> refine CD rfl ?_ <;> (refine W_gtr rfl rfl (fun T => ?_) (fun T => ?_) <;> try omega))
      repeat first | refine nx rfl ?_ | refine nf rfl ?_
      have ex : x.args = [] := List.length_eq_zero_iff.1 U;have ez : BO x y = 0 := by rw [I, ex]; cases y.args <;> rfl
      refine ⟨(Q, s, F ++ [(l, m)]), ⟨rfl, ⟨congrArg (fun n => Value.slice (sm Q) n s) O, trivial⟩, ⟨⟨_, _, _, hC⟩, C, ?_, by simp only; rw [BB]; simp only; omega⟩⟩, by simp only; rw [BB, BB]; simp only [szL]; omega⟩;simp only;rw [Cr, z, cmpL_cons0 ez]
def Dg (l : List Sgn) (s : LU) : Int := match l.findIdx? (fun x => decide (x.name = s)) with
 | some i => (i : Int)
 | none => -1
theorem sigFind_ok (w : World) (v : Value) (l : List Sgn) (s : LU) (h : SlAt sgnR AZ w v l) : Fn Zp 141 [v, AI s] w fun v w' => v = iV (Dg l s) ∧ w' = w := by
 obtain ⟨a, c, L, rfl, t, g⟩ := h;have I : l.length ≤ 9223372036854775807 := by obtain ⟨_, _, q, r, p, _⟩ := id t; cases q; omega
 refine AG Tryz.func141 rfl Tryz.ntmps141 (go ?_);refine Ah (α := Nat) (fun k => [(0, .slice a l.length c), (1, AI s), (7, iV (l.length : Int)), (8, iV (k : Int))]) (fun k W => k ≤ l.length ∧ W = w ∧ ∀ j y, j < k → l[j]? = some y → y.name ≠ s) (fun k => l.length - k) 0 ⟨rfl, rfl, rfl, rfl, trivial⟩ ⟨by omega, rfl, fun j y e => by omega⟩ ?_;rintro k u Q ⟨P, rfl, e⟩;repeat refine nx rfl ?_
 by_cases d : k < l.length
 ·obtain ⟨y, K⟩ : ∃ y, l[k]? = some y := ⟨_, List.getElem?_eq_getElem d⟩;obtain ⟨H, G⟩ : ∃ H, L[k]? = some H := ⟨_, List.getElem?_eq_getElem (by rw [g.1]; exact d)⟩;obtain rfl : H = sgnC y := g.2 k H y G K;obtain ⟨b, o, rfl, _, B⟩ := t.recs g (sz := 3) rfl G d;have X : u.cell? ⟨b, o + k * 3 + 0, none⟩ = some (AI y.name) := B 0 _ rfl;refine AJ (W_lssT rfl rfl U ?_);repeat refine nx rfl ?_
  refine AJ (Af rfl (Ac (Af rfl ?_)));repeat refine nx rfl ?_
  refine AJ (Az rfl (Af rfl ?_));refine C5 (k := k) rfl rfl rfl d ?_;by_cases f : y.name = s
  ·(refine AF rfl (AM rfl Do ?_) <;> refine CK rfl ?_ <;> refine W_seql rfl rfl (fun T => ?_) (fun T => ?_) <;> refine AH ?_)
   case refine_2 => exact absurd f Do
   refine go ?_;refine AA rfl ⟨?_, rfl⟩
   have : l.findIdx? (fun x => decide (x.name = s)) = some k := by
    rw [List.findIdx?_eq_some_iff_getElem];obtain ⟨C, A⟩ := List.getElem?_eq_some_iff.1 K;refine ⟨d, by simp [A, f], fun j m => ?_⟩;have := e j l[j] m (List.getElem?_eq_getElem U);simpa using this
   unfold Dg;rw [this]; rfl
  ·(refine AF rfl (AM rfl Do ?_) <;> refine CK rfl ?_ <;> refine W_seql rfl rfl (fun T => ?_) (fun T => ?_) <;> refine AH ?_)
   case refine_1 => exact absurd Do f
   refine go ?_;refine ⟨k + 1, ⟨rfl, ⟨rfl, rfl, rfl, ?_, trivial⟩, ⟨by omega, rfl, fun j z m n => ?_⟩⟩, by omega⟩
   ·show iV ((k : Int) + 1) = _;rw [Int.natCast_add]; rfl
   ·rcases Nat.lt_or_ge j k with h | h
    ·exact e j z h n
    ·obtain rfl : j = k := by omega
     rw [K] at n; cases n; exact f
 ·obtain rfl : k = l.length := by omega
  refine go ?_;refine AA rfl ⟨?_, rfl⟩
  have : l.findIdx? (fun x => decide (x.name = s)) = none := by
   rw [List.findIdx?_eq_none_iff];intro x V;obtain ⟨i, F⟩ := List.getElem?_of_mem V;simpa using e i x (List.getElem?_eq_some_iff.1 F).1 F
  unfold Dg;rw [this]; rfl
def BE : List Sgn → Int
 | [] => 1
 | x :: l => BE l * x.size
def okI (l : List Sgn) (i : Nat) : Bool := match l[i]? with
 | some x => CJ x.name && decide (2 ≤ x.size) && decide (x.size ≤ 4) && (l.take i).all (fun y => decide (y.name ≠ x.name))
 | none => true
def A6 (l : List Sgn) : Bool := decide (1 ≤ l.length) && decide (l.length ≤ 6) && (List.range l.length).all (okI l) && decide (BE l ≤ 64)
theorem prodS_snoc : ∀ (l : List Sgn) (x : Sgn), BE (l ++ [x]) = BE l * x.size
 | [], x => by simp [BE]
 | y :: l, x => by
  rw [List.cons_append, BE, prodS_snoc l x, BE, Int.mul_right_comm]
theorem prodS_take {l : List Sgn} {k : Nat} {x : Sgn} (h : l[k]? = some x) : BE (l.take (k + 1)) = BE (l.take k) * x.size := by
 rw [List.take_add_one, h, ← prodS_snoc]; rfl
theorem DD {l : List Sgn} {i : Nat} {x : Sgn} (V : l[i]? = some x) : okI l i = true ↔ CJ x.name = true ∧ 2 ≤ x.size ∧ x.size ≤ 4 ∧ ∀ j y, j < i → l[j]? = some y → y.name ≠ x.name := by
 unfold okI;rw [V];simp only [Bool.and_eq_true, decide_eq_true_eq, List.all_eq_true, and_assoc];refine and_congr_right fun _ => and_congr_right fun _ => and_congr_right fun _ => ?_;constructor
 ·intro h j y a K;exact h y (List.mem_of_getElem? (by rw [List.getElem?_take, if_pos a]; exact K))
 ·intro h y K;obtain ⟨j, a⟩ := List.getElem?_of_mem K;rw [List.getElem?_take] at a
  split at a
  ·exact h j y Do a
  ·cases a
theorem prodS_le : ∀ (l : List Sgn), (∀ x ∈ l, 2 ≤ x.size ∧ x.size ≤ 4) → l.length ≤ 6 → 1 ≤ BE l ∧ BE l ≤ (4 : Int) ^ l.length
 | [], _, _ => by simp [BE]
 | x :: l, h, hl => by
  obtain ⟨X, W⟩ := prodS_le l (fun y K => h y (by simp [K])) (by simp at hl; omega);obtain ⟨R, w⟩ := h x O;simp only [BE, List.length_cons];constructor
  ·have := Int.mul_le_mul X (show (1 : Int) ≤ x.size by omega) U U;simpa using this
  ·rw [Int.pow_succ];exact Int.mul_le_mul W w U U
theorem pow_six {n : Nat} (h : n ≤ 6) : (4 : Int) ^ n ≤ 4096 := by
 have : n = 0 ∨ n = 1 ∨ n = 2 ∨ n = 3 ∨ n = 4 ∨ n = 5 ∨ n = 6 := by omega
 rcases this with rfl | rfl | rfl | rfl | rfl | rfl | rfl <;> decide
theorem prodS_six {l : List Sgn} (h : ∀ i, i < l.length → okI l i = true) {k : Nat} (P : k ≤ l.length) (a : l.length ≤ 6) : 1 ≤ BE (l.take k) ∧ BE (l.take k) ≤ 4096 := by
 have X := prodS_le (l.take k) (fun x V => by
  obtain ⟨i, F⟩ := List.getElem?_of_mem (List.mem_of_mem_take V);have := (DD F).1 (h i (List.getElem?_eq_some_iff.1 F).1);exact ⟨this.2.1, this.2.2.1⟩) EF
 have W := pow_six (n := (l.take k).length) EF;omega
theorem DI {l : List Sgn} (h : A6 l = true) : 1 ≤ l.length ∧ l.length ≤ 6 ∧ (∀ i, i < l.length → okI l i = true) ∧ BE l ≤ 64 := by
 simp only [A6, Bool.and_eq_true, decide_eq_true_eq, List.all_eq_true, List.mem_range] at h;exact ⟨h.1.1.1, h.1.1.2, h.1.2, h.2⟩
theorem valid_false {l : List Sgn} {i : Nat} (F : i < l.length) (h : okI l i = false) : A6 l = false := by
 cases hv : A6 l with
 | false => rfl
 | true => rw [(DI hv).2.2.1 i F] at h; cases h
set_option maxHeartbeats 1600000 in
theorem Dj (w : World) (v : Value) (l : List Sgn) (h : SlAt sgnR AZ w v l) (hK : KY w) : Fn Zp 55 [v] w fun u w' => u = .bool (A6 l) ∧ Ext w w' := by
 obtain ⟨a, c, L, rfl, hS, I⟩ := h;have b1 : l.length ≤ 9223372036854775807 := by obtain ⟨_, _, s, r, g2, _⟩ := id hS; cases s; omega
 refine AG Tryz.func55 rfl Tryz.ntmps55 (go ?_);by_cases a3 : 1 ≤ l.length ∧ l.length ≤ 6
 case neg =>
  have s : A6 l = false := by
   simp only [A6];rw [show (decide (1 ≤ l.length) && decide (l.length ≤ 6)) = false by rw [← Bool.not_eq_true, Bool.and_eq_true, decide_eq_true_eq, decide_eq_true_eq]; exact a3];rfl
  rw [s];by_cases h1 : 1 ≤ l.length
  ·exact Eg
  ·exact Eg
 obtain ⟨a6, a7⟩ := a3;refine go ?_;refine Ah (α := Nat) (fun k => [(0, .slice a l.length c), (3, .bool true), (4, iV (BE (l.take k))), (16, iV (l.length : Int)), (17, iV (k : Int))]) (fun k W => k ≤ l.length ∧ Ext w W ∧ ∀ i, i < k → okI l i = true) (fun k => l.length - k) 0 ⟨rfl, rfl, rfl, rfl, rfl, trivial⟩ ⟨by simp, Ext.refl _, fun i F => by omega⟩ ?_;rintro k w1 f1 ⟨hk, X, f⟩;refine go ?_;by_cases P : k < l.length
 ·refine go ?_;obtain ⟨x, V⟩ : ∃ x, l[k]? = some x := ⟨_, List.getElem?_eq_getElem P⟩
  have A : ∀ W, Ext w W → ∀ j y, l[j]? = some y → ∃ b o, a = some ⟨b, o, none⟩ ∧ W.cell? ⟨b, o + j * 3 + 0, none⟩ = some (AI y.name) ∧ W.cell? ⟨b, o + j * 3 + 2, none⟩ = some (iV y.size) := by
   intro W B j y K;have p := (List.getElem?_eq_some_iff.1 K).1;obtain ⟨H, G⟩ : ∃ H, L[j]? = some H := ⟨_, List.getElem?_eq_getElem (by rw [I.1]; exact p)⟩;obtain rfl : H = sgnC y := I.2 j H y G K;obtain ⟨b, o, e, _, T⟩ := (hS.ext B).recs (I.ext B) (sz := 3) rfl G p;exact ⟨b, o, e, T 0 _ rfl, T 2 _ rfl⟩
  obtain ⟨b, o, rfl, R, E⟩ := A w1 X k x V;have t : okI l k = true ↔ _ := DD V
  have a4 := prodS_six (l := l.take k) (fun i F => by
   rw [List.length_take] at F;have a1 : i < k := by omega
   obtain ⟨y, K⟩ : ∃ y, l[i]? = some y := ⟨_, List.getElem?_eq_getElem U⟩;have b0 : (l.take k)[i]? = some y := by rw [List.getElem?_take, if_pos a1]; exact K
   have := (DD K).1 (f i a1);refine (DD b0).2 ⟨this.1, this.2.1, this.2.2.1, fun j z p n => ?_⟩;rw [List.getElem?_take, if_pos U] at n;exact this.2.2.2 j z p n) (Nat.le_refl _) EF
  rw [List.take_length] at a4;have a9 := prodS_take V;refine go ?_;refine AC (DA x.name w1 (hK.E X O)) rfl ?_;rintro _ _ ⟨rfl, rfl⟩;have m : okI l k = false → A6 l = false := valid_false P;cases hnm : CJ x.name with
  | false =>
   have S := m (by rw [← Bool.not_eq_true, t]; simp [hnm]);refine go ?_;exact AA rfl ⟨by rw [S]; rfl, X⟩
  | true =>
  refine go ?_;by_cases Z : 2 ≤ x.size
  case neg =>
   have S := m (by rw [← Bool.not_eq_true, t]; simp [Z]);refine go ?_;exact AA rfl ⟨by rw [S]; rfl, X⟩
  refine go ?_;by_cases C : x.size ≤ 4
  case neg =>
   have S := m (by rw [← Bool.not_eq_true, t]; simp [C]);refine go ?_;exact AA rfl ⟨by rw [S]; rfl, X⟩
  refine go ?_;refine Ah (α := Nat) (fun j => [(0, .slice (some ⟨b, o, none⟩) l.length c), (3, .bool true), (4, iV (BE (l.take k))), (5, iV (k : Int)), (16, iV (l.length : Int)), (17, iV (k : Int)), (43, iV (k : Int)), (44, iV (j : Int))]) (fun j W => j ≤ k ∧ Ext w W ∧ ∀ i y, i < j → l[i]? = some y → y.name ≠ x.name) (fun j => k - j) 0 ⟨rfl, rfl, rfl, rfl, rfl, rfl, rfl, rfl, trivial⟩ ⟨by simp, X, fun i y F => by omega⟩ ?_;clear R E X;rintro j w2 f2 ⟨p, d, a0⟩;refine go ?_;by_cases a2 : j < k
  ·obtain ⟨y, K⟩ : ∃ y, l[j]? = some y := ⟨_, List.getElem?_eq_getElem U⟩;refine go ?_;generalize D : decide (y.name = x.name) = cc;repeat' first | refine AH ?_ | refine Q_then ?_ | refine C_seq ?_
   refine C_mid (α := Unit) (fun _ => [(0, .slice (some ⟨b, o, none⟩) l.length c), (3, .bool true), (4, iV (BE (l.take k))), (5, iV (k : Int)), (16, iV (l.length : Int)), (17, iV (k : Int)), (43, iV (k : Int)), (44, iV (j : Int)), (57, .bool cc)]) (fun _ W => Ext w W) ?_ ?_
   ·refine AW (rd 0 11 .done) Al Dk (fun Q N ed => ⟨Ext Q, ?_, ?_⟩)
    ·exact EZ
    have r : ∀ W, Ext Q W → W.cell? ⟨b, o + j * 3 + 0, none⟩ = some (AI y.name) := fun W e => by
     obtain ⟨b', o', g, q, _⟩ := A W ((d.trans N).trans e) j y K;cases g; exact q
    have g2 : ∀ W, Ext Q W → W.cell? ⟨b, o + k * 3 + 0, none⟩ = some (AI x.name) := fun W e => by
     obtain ⟨b', o', g, q, _⟩ := A W ((d.trans N).trans e) k x V;cases g; exact q
    refine D_R rfl rfl (fun W B => Az rfl Z3) (D_R rfl rfl (fun W B => Af rfl Z3) ?_);refine D_R rfl rfl (fun W B => by refine C5 (k := j) rfl rfl rfl U ?_; exact AH ⟨rfl, rfl, rfl⟩) ?_;refine D_R rfl rfl (fun W B => AF rfl Z3) (D_R rfl rfl (fun W B => AM rfl (r W B) Z3) (D_R rfl rfl (fun W B => Az rfl Z3) (D_R rfl rfl (fun W B => Af rfl Z3) ?_)));refine D_R rfl rfl (fun W B => by refine C5 (k := k) rfl rfl rfl U ?_; exact AH ⟨rfl, rfl, rfl⟩) ?_;refine go ?_;((refine D_seql rfl rfl rfl rfl (fun T => ?_) (fun T => ?_)) <;> refine Cb ?_)
    ·have e : cc = true := by rw [← D]; exact decide_eq_true Do
     subst e;refine go ?_;exact Aw () ⟨rfl, rfl, rfl, rfl, rfl, rfl, rfl, rfl, rfl, trivial⟩ (d.trans N)
    ·have e : cc = false := by rw [← D]; exact decide_eq_false Do
     subst e;refine go ?_;exact Aw () ⟨rfl, rfl, rfl, rfl, rfl, rfl, rfl, rfl, rfl, trivial⟩ (d.trans N)
   rintro _ w3 f3 k3;cases cc with
   | true =>
    have S := m (by
     rw [← Bool.not_eq_true, t];exact fun q => q.2.2.2 j y a2 K (of_decide_eq_true D))
    refine go ?_;exact AA rfl ⟨by rw [S]; rfl, k3⟩
   | false =>
    refine go ?_;refine ⟨j + 1, ⟨rfl, ⟨rfl, rfl, rfl, rfl, rfl, rfl, rfl, ?_, trivial⟩, ⟨a2, k3, fun i z F n => ?_⟩⟩, by omega⟩
    ·show iV ((j : Int) + 1) = _;rw [Int.natCast_add]; rfl
    ·by_cases M : i = j
     ·subst M;rw [K] at n; cases n;exact of_decide_eq_false D
     ·exact a0 i z U n
  ·obtain rfl : j = k := by omega
   have a8 : okI l j = true := t.2 ⟨hnm, Z, C, a0⟩;obtain ⟨_, _, g, R, E⟩ := A w2 d j x V;cases g;refine go ?_
   have b2 : BE (l.take j) * x.size ≤ 16384 := by
    have := Int.mul_le_mul a4.2 C U U;omega
   have b3 : 0 ≤ BE (l.take j) * x.size := Int.mul_nonneg U U;refine go ?_;refine ⟨j + 1, ⟨rfl, ⟨rfl, rfl, ?_, rfl, ?_, trivial⟩, ⟨P, d, fun i F => ?_⟩⟩, by omega⟩
   ·exact congrArg (iV) a9.symm
   ·show iV ((j : Int) + 1) = _;rw [Int.natCast_add]; rfl
   ·by_cases M : i = j
    ·subst M; exact a8
    ·exact f i U
 ·obtain rfl : k = l.length := by omega
  rw [List.take_length]
  have a5 : (List.range l.length).all (okI l) = true := by
   rw [List.all_eq_true];exact fun i F => f i (List.mem_range.1 F)
  have s : A6 l = decide (BE l ≤ 64) := by
   unfold A6;rw [a5, decide_eq_true a6, decide_eq_true a7]; simp
  rw [s];refine go ?_;by_cases hp : BE l ≤ 64
  ·refine go ?_;exact AA rfl ⟨by rw [decide_eq_true hp]; rfl, X⟩
  ·refine go ?_;exact AA rfl ⟨by rw [decide_eq_false hp]; rfl, X⟩
structure WtsR (yv : Value) (X : List Nat) (B : Nat) (l : List Sgn) (J : Nat → World → Prop) (D : World → Prop) : Prop where
 fn : ∃ y, yv = .func (.yield y) #[] #[]
 E : ∀ {k : Nat} {W W' : World} {Y : List Nat}, J k W → Keep Y W W' → (∀ y ∈ Y, B ≤ y) → J k W'
 step : ∀ {k : Nat} {W : World} {x : Sgn}, J k W → l[k]? = some x → YldP Zp yv [iV (k : Int), iV (BE (l.take k))] W (fun v W' => Keep X W W' ∧ ((v = .bool true ∧ J (k + 1) W') ∨ (v = .bool false ∧ D W'))) (fun _ _ => False)
theorem prod_bound {l : List Sgn} (q : A6 l = true) {k : Nat} {x : Sgn} (V : l[k]? = some x) : 1 ≤ BE (l.take k) ∧ BE (l.take k) ≤ 4096 ∧ 2 ≤ x.size ∧ x.size ≤ 4 ∧ 0 ≤ BE (l.take k) * x.size ∧ BE (l.take k) * x.size ≤ 16384 := by
 obtain ⟨X, W, a, _⟩ := DI q;have P := (List.getElem?_eq_some_iff.1 V).1;have v := prodS_six a (k := k) U W;have f := (DD V).1 (a k P);have b := Int.mul_le_mul v.2 f.2.2.1 U U;exact ⟨v.1, v.2, f.2.1, f.2.2.1, Int.mul_nonneg U U, by omega⟩
theorem SlAt.E {α : Type} {R : Rp α} {ok : Nat → Prop} {X : List Nat} {w w' : World} {v : Value} {l : List α} (h : SlAt R ok w v l) (k : Keep X w w') (d : ∀ b, ok b → b ∉ X) : SlAt R ok w' v l := by
 obtain ⟨a, c, L, e, f, W⟩ := h;exact ⟨a, c, L, e, f.E k d, W.E k d⟩
theorem SlAt.lt {α : Type} {R : Rp α} {ok : Nat → Prop} {w : World} {v : Value} {l : List α} (z : 0 < R.size) (h : SlAt R ok w v l) : SlAt R (fun b => ok b ∧ b < w.heap.size) w v l := by
 obtain ⟨a, c, L, e, X, W⟩ := h;exact ⟨a, c, L, e, Sl_ltR z X W, W.lt⟩
theorem SlAt.sig {ok : Nat → Prop} {w : World} {a : Option Addr} {n c : Nat} {l : List Sgn} {k : Nat} {x : Sgn} (h : SlAt sgnR ok w (.slice a n c) l) (V : l[k]? = some x) : n = l.length ∧ ∃ b o, a = some ⟨b, o, none⟩ ∧ ok b ∧ Cells w b (o + k * 3) (sgnC x) := by
 obtain ⟨g, i, L, e, f, d⟩ := h;cases e;have y := (List.getElem?_eq_some_iff.1 V).1;obtain ⟨H, G⟩ : ∃ H, L[k]? = some H := ⟨_, List.getElem?_eq_getElem (by rw [d.1]; exact y)⟩;obtain rfl : H = sgnC x := d.2 k H x G V;obtain ⟨b, o, e, S, T⟩ := f.recs d (sz := 3) rfl G y;exact ⟨rfl, b, o, e, S, T⟩
theorem SlAt.len {α : Type} {R : Rp α} {ok : Nat → Prop} {w : World} {v : Value} {l : List α} (h : SlAt R ok w v l) : ∃ a c, v = .slice a l.length c ∧ l.length ≤ 9223372036854775807 := by
 obtain ⟨a, c, L, rfl, b, _⟩ := h;refine ⟨a, c, rfl, ?_⟩;obtain ⟨_, _, q, r, p, _⟩ := b;cases q; omega
theorem weights_ok (w : World) (v : Value) (c : v.oneCell' = true) : Fn Zp 187 [v] w fun u w' => u = .func (.func 242) #[] #[pt w.heap.size] ∧ New w w' 22 [v] := by
 refine AG Tryz.func187 rfl Tryz.ntmps187 (go ?_);refine Aj (L := [v]) (by cases v <;> simp_all [Value.cells, Value.oneCell', ev, argF]) (fun Q E => ?_);refine go ?_;exact AA rfl ⟨rfl, E⟩
theorem weightsIt_ok {S : Value} {X : List Nat} {d : Nat → World → Prop} {D : World → Prop} (w : World) (i : Nat) (v : Value) (l : List Sgn) (H : WtsR S X w.heap.size l d D) (u : Blk w i 22 [v]) (q : SlAt sgnR (fun b => b ∉ X) w v l) (A : A6 l = true) (g : d 0 w) (I : i ∉ X) :
  Fn Zp 242 [S, pt i] w fun _ w' => Keep X w w' ∧ (d l.length w' ∨ D w') := by
 obtain ⟨y, rfl⟩ := H.fn;obtain ⟨a, c, rfl, F⟩ := q.len;refine AG Tryz.func242 rfl Tryz.ntmps242 (go ?_);have p := u.cell (o := 0) rfl;refine go ?_;refine Ah (α := Nat) (fun k => [(0, .func (.yield y) #[] #[]), (1, pt i), (3, iV (BE (l.take k))), (6, iV (l.length : Int)), (7, iV (k : Int))]) (fun k W => k ≤ l.length ∧ Keep X w W ∧ d k W) (fun k => l.length - k) 0 ⟨rfl, rfl, rfl, rfl, rfl, trivial⟩ ⟨by simp, Keep.refl _ _, g⟩ ?_;rintro k W M ⟨P, T, m⟩;refine go ?_;by_cases n : k < l.length
 ·obtain ⟨x, V⟩ : ∃ x, l[k]? = some x := ⟨_, List.getElem?_eq_getElem n⟩;obtain ⟨r, s, L, e, K, N⟩ := prod_bound A V;refine go ?_;refine W_yield rfl rfl (H.step m V) ?_;rintro _ W1 ⟨z, B⟩;have j := T.trans z (fun _ h _ => h);rcases B with ⟨rfl, t⟩ | ⟨rfl, f⟩
  case inr =>
   refine go ?_;exact fin_ret0 rfl ⟨j, .inr f⟩
  obtain ⟨_, b, o, rfl, _, G⟩ := (q.E j (fun _ h => h)).sig V;have C := j.cell p I;have E : W1.cell? ⟨b, o + k * 3 + 2, none⟩ = some (iV x.size) := G 2 _ rfl;refine go ?_;refine ⟨k + 1, ⟨rfl, ⟨rfl, rfl, ?_, rfl, ?_, trivial⟩, ⟨n, j, t⟩⟩, by omega⟩
  ·exact congrArg (iV) (prodS_take V).symm
  ·show iV ((k : Int) + 1) = _;rw [Int.natCast_add]; rfl
 ·obtain rfl : k = l.length := by omega
  refine go ?_;exact BF rfl ⟨T, .inl m⟩
end
section
variable {mk : Prop} [MK mk]
end
section
variable {mk : Prop} [MK mk]
theorem SlAt.pf {ok : Nat → Prop} {w : World} {a : Option Addr} {n c : Nat} {l : LF} {k : Nat} {x : Fml} (h : SlAt fmlR ok w (.slice a n c) l) (V : l[k]? = some x) : ∃ b o, a = some ⟨b, o, none⟩ ∧ PF ok w b (o + k * 5) x := by
 obtain ⟨j, G, L, e, i, f⟩ := h;cases e;have y := (List.getElem?_eq_some_iff.1 V).1;obtain ⟨d, C⟩ : ∃ d, L[k]? = some d := ⟨_, List.getElem?_eq_getElem (by rw [f.1]; exact y)⟩;obtain ⟨b, o, rfl, S, T⟩ := i.recs f (sz := 5) rfl C y;have g := f.2 k d x C V;exact ⟨b, o, rfl, S, d, g.1, T, g.2⟩
def pastN (x : Nd) : Bool := !(BJ x.1.op).future
def layN (x : Nd) : Bool := !((BJ x.1.op).future && x.2)
def pastG (f : Fml) : Bool := (DW false f).all pastN
def layG (f : Fml) : Bool := (DW false f).all layN
def validG (f : Fml) : Bool := decide (szF f ≤ 60) && decide (dpF f ≤ 20) && (DW false f).all fun x => De x.1
theorem fpast_ok (w : World) (v : Value) (f : Fml) (I : FAt AZ w v f) (D : GF w) (hN : 10 ≤ w.heap.size) (C : dpF f ≤ 5000) : Fn Zp 186 [v] w fun u w' => u = .bool (pastG f) ∧ Ext w w' := by
 have X := I.lt;obtain ⟨t, rfl, P, a0⟩ := I.cells;refine Cx Tryz.func186 rfl Tryz.ntmps186 nlr Dk (go ?_);refine Aj (L := t) rfl (fun Q E => ?_);refine AQ (fun p e => go ?_);have z1 := E.size;have z2 := e.size;have k := E.D.E e.E O;have G : Blk p Q.heap.size 4 [.bool false] := e.D;have c := E.E.trans e.E;have R : PF (fun b => b ≠ Q.heap.size) p w.heap.size 0 f := ⟨by omega, t, P, k.cells, (X.ext c).mono fun x V => by have := V.2; omega⟩;refine go ?_;refine AC (nodes_ok p w.heap.size 0) rfl ?_;rintro _ w4 ⟨rfl, K⟩;refine go ?_;refine C_allNodes pastN rfl Dk rfl (G.E K.E O) K.D (R.E K.E (fun _ _ => by simp)) (D.ext (c.trans K.E)) U C (fun l b' o' x i W a1 => ?_) (fun W Z q g => ?_)
 ·refine go ?_;refine ⟨rfl, fun T M V S => ?_⟩;have N := D.ext ((c.trans K.E).trans M);refine go ?_;have c0 := V.opc;refine go ?_;refine AC (formOf_ok T x.op N) rfl ?_;rintro _ W3 ⟨rfl, z⟩;refine go ?_;refine An (cs := Bl (BJ x.op)) rfl rfl Dn (formC_one _) (fun W4 s => go ?_);have n := s.D;have m := z.trans s.E;have r : pastN (x, i) = !(BJ x.op).future := rfl;rw [r];generalize BJ x.op = y at n ⊢;obtain ⟨xl, xm, xv, xb, xn, xp, H, xo⟩ := y;cases H with
  | true =>
   exact FR
  | false =>
   refine go ?_;exact ⟨rfl, m⟩
 ·have z4 := K.size;unfold pastG;have j : Ext w W := (c.trans K.E).E Z (fun x V => by simp at V; omega);cases r : (DW false f).all pastN with
  | true =>
   exact Ee
  | false =>
   exact FM
theorem flay_ok (w : World) (v : Value) (f : Fml) (I : FAt AZ w v f) (D : GF w) (hN : 10 ≤ w.heap.size) (C : dpF f ≤ 5000) : Fn Zp 95 [v] w fun u w' => u = .bool (layG f) ∧ Ext w w' := by
 have X := I.lt;obtain ⟨t, rfl, P, a0⟩ := I.cells;refine Cx Tryz.func95 rfl Tryz.ntmps95 nlr Dk (go ?_);refine Aj (L := t) rfl (fun Q E => ?_);refine AQ (fun p e => go ?_);have z1 := E.size;have z2 := e.size;have k := E.D.E e.E O;have G : Blk p Q.heap.size 4 [.bool false] := e.D;have c := E.E.trans e.E;have R : PF (fun b => b ≠ Q.heap.size) p w.heap.size 0 f := ⟨by omega, t, P, k.cells, (X.ext c).mono fun x V => by have := V.2; omega⟩;refine go ?_;refine AC (nodes_ok p w.heap.size 0) rfl ?_;rintro _ w4 ⟨rfl, K⟩;refine go ?_;refine C_allNodes layN rfl Dk rfl (G.E K.E O) K.D (R.E K.E (fun _ _ => by simp)) (D.ext (c.trans K.E)) U C (fun l b' o' x i W a1 => ?_) (fun W Z q g => ?_)
 ·refine go ?_;refine ⟨rfl, fun T M V S => ?_⟩;have N := D.ext ((c.trans K.E).trans M);refine go ?_;have c0 := V.opc;refine go ?_;refine AC (formOf_ok T x.op N) rfl ?_;rintro _ W3 ⟨rfl, z⟩;refine go ?_;refine An (cs := Bl (BJ x.op)) rfl rfl Dn (formC_one _) (fun W4 s => go ?_);have n := s.D;have m := z.trans s.E;have r : layN (x, i) = !((BJ x.op).future && i) := rfl;rw [r];generalize BJ x.op = y at n ⊢;obtain ⟨xl, xm, xv, xb, xn, xp, H, xo⟩ := y;cases H <;> cases i
  case true.true =>
   exact FR
  all_goals
   refine go ?_;exact ⟨rfl, m⟩
 ·have z4 := K.size;unfold layG;have j : Ext w W := (c.trans K.E).E Z (fun x V => by simp at V; omega);cases r : (DW false f).all layN with
  | true =>
   exact Ee
  | false =>
   exact FM
theorem fvalid_ok (w : World) (v : Value) (f : Fml) (I : FAt AZ w v f) (D : GF w) (X : KY w) (c : 10 ≤ w.heap.size) : Fn Zp 94 [v] w fun u w' => u = .bool (validG f) ∧ Ext w w' := by
 have y := I.lt;obtain ⟨t, rfl, P, n⟩ := I.cells;refine Cx Tryz.func94 rfl Tryz.ntmps94 nlr Dk (go ?_);refine Aj (L := t) rfl (fun Q E => ?_);refine AQ (fun B q => go ?_);have z1 := E.size;have z2 := q.size;have k := E.D.E q.E O;have H : Blk B Q.heap.size 4 [.bool false] := q.D;have e := E.E.trans q.E;have Z : PF (fun b => b ≠ Q.heap.size) B w.heap.size 0 f := ⟨by omega, t, P, k.cells, (y.ext e).mono fun x V => by have := V.2; omega⟩;refine go ?_;refine AC (within_ok B w.heap.size 0 f 60 20 U U ⟨by omega, t, P, k.cells, (y.ext e).mono fun x V => by have := V.2; omega⟩) rfl ?_;rintro _ w3 ⟨rfl, g⟩;unfold validG;cases hsz : (decide (szF f ≤ 60) && decide (dpF f ≤ 20)) with
 | false =>
  refine go ?_;refine AN (v := .bool false) rfl rfl rfl (H.E g O) O (fun C A => go ?_);exact BA (A9 rfl (A.D.cell (o := 0) rfl) ⟨rfl, (e.trans g).E A.E Dl⟩)
 | true =>
 simp at hsz;refine go ?_;refine AC (nodes_ok w3 w.heap.size 0) rfl ?_;rintro _ w4 ⟨rfl, K⟩;refine go ?_;have z3 := g.size;refine C_allNodes (fun x => De x.1) rfl Dk rfl (H.E (g.trans K.E) O) K.D (Z.E (g.trans K.E) (fun _ _ => by simp)) (D.ext ((e.trans g).trans K.E)) U U (fun l r p x i W a0 => ?_) (fun W kW M s => ?_)
 ·refine go ?_;refine ⟨rfl, fun T R V S => ?_⟩;have N := ((e.trans g).trans K.E).trans R;have G := Bv x.args;have a1 := Bd x;refine go ?_;refine AC (shaped_ok T r p x (V.mono fun _ _ => trivial) (D.ext N) (X.E N O) U) rfl ?_;rintro _ m ⟨rfl, z⟩;show AO _ _ _ _ _ _ _ _;cases hp : De x with
  | false =>
   refine go ?_;refine AN (v := .bool false) rfl rfl rfl (S.E z O) O (fun C A => go ?_);exact ⟨rfl, z.any.trans A.E (fun _ h _ => h), A.D⟩
  | true =>
   refine go ?_;exact ⟨rfl, z⟩
 ·have z4 := K.size;have j : Ext w W := ((e.trans g).trans K.E).E kW (fun x V => by simp at V; omega);cases hp : (DW false f).all (fun x => De x.1) with
  | true =>
   rw [if_pos rfl];refine go ?_;refine AN (v := .bool true) rfl rfl rfl M O (fun C A => go ?_);refine Bt ((A.E.block _ (Array.getElem?_eq_some_iff.1 s).1 Dl).trans s) fun d a F => ?_;exact BA (A9 rfl ((A.D.E a Dl).cell (o := 0) rfl) ⟨rfl, (j.E A.E (fun x V => by simp at V; omega)).E a (fun x V => by simp at V; omega)⟩)
  | false =>
   rw [if_neg O];refine go ?_;refine Bt s fun d a F => ?_;exact BA (A9 rfl ((M.E a Dl).cell (o := 0) rfl) ⟨rfl, j.E a (fun x V => by simp at V; omega)⟩)
def negOk (f : Fml) : Bool := match f.args with
 | a :: _ => decide (a.op = 3)
 | [] => false
def bareN (x : Nd) : Bool := ((BJ x.1.op).loose && De x.1 && !((BJ x.1.op).future && x.2)) && (if x.1.op = 4 then negOk x.1 else true)
def bareG (f : Fml) : Bool := (DW false f).all bareN
theorem bare_ok (w : World) (b o : Nat) (f : Fml) (hf : PF AZ w b o f) (M : GF w) (hK : KY w) (hN : 10 ≤ w.heap.size) (hd : dpF f ≤ 5000) (hz : szF f ≤ 1000000) : Fn Zp 84 [.pointer (some ⟨b, o, none⟩)] w fun u w' => u = .bool (bareG f) ∧ Ext w w' := by
 have a1 := hf.lt;refine Cx Tryz.func84 rfl Tryz.ntmps84 nlr Dk (go ?_);refine AQ (fun L B => go ?_);have z2 := B.size;have Z : Blk L w.heap.size 4 [.bool false] := B.D;have p := B.E;have a0 : PF (fun b => b ≠ w.heap.size) L b o f := (a1.E p (fun _ _ => by simp)).mono fun x V => by have := V.2; omega
 refine go ?_;refine AC (nodes_ok L b o) rfl ?_;rintro _ w4 ⟨rfl, K⟩;refine go ?_;refine C_allNodes bareN rfl Dk rfl (Z.E K.E O) K.D (a0.E K.E (fun _ _ => by simp)) (M.ext (p.trans K.E)) U hd (fun l r o' x i W b1 => ?_) (fun W kW C s => ?_)
 ·refine go ?_;refine ⟨rfl, fun T e2 V S => ?_⟩;have k := (p.trans K.E).trans e2;have E := M.ext k;refine go ?_;have c0 := V.opc;refine go ?_;refine AC (formOf_ok T x.op E) rfl ?_;rintro _ W3 ⟨rfl, z⟩;refine go ?_;refine An (cs := Bl (BJ x.op)) rfl rfl Dn (formC_one _) (fun m Q => go ?_);have n := Q.D;have d := z.trans Q.E;have t : bareN (x, i) = (((BJ x.op).loose && De x && !((BJ x.op).future && i)) && (if x.op = 4 then negOk x else true)) := rfl;have a8 := Bv x.args;have b0 := Bd x;have a4 := shaped_ok m r o' x ((V.E d (fun _ _ => by simp)).mono fun _ _ => trivial) (E.ext d) (hK.E (k.trans d) O) U
  have a5 : x.op = 4 → De x = true → x.args.length = 1 := fun e D => by
   unfold De at D;rw [e] at D;simp [BJ, isOpB, formsL, shapeX] at D;omega
  rw [t];clear t;generalize BJ x.op = y at n ⊢;obtain ⟨xl, xm, xv, xb, xn, xp, H, xo⟩ := y;cases xo with
  | false =>
   refine go ?_;refine AN (v := .bool false) rfl rfl rfl (S.E d O) O (fun q c => go ?_);exact ⟨rfl, (d).any.trans c.E (fun _ h _ => h), c.D⟩
  | true =>
   refine go ?_;refine AC a4 rfl ?_;rintro _ X ⟨rfl, I⟩;have G := d.trans I;cases D : De x with
   | false =>
    exact FP
   | true =>
   replace n := n.E I O;by_cases F : H = true ∧ i = true
   ·obtain ⟨rfl, rfl⟩ := F;exact FP
   have a9 : (!(H && i)) = true := by cases H <;> cases i <;> simp_all
   have a6 := V.E G (fun _ _ => by simp);obtain ⟨aa, cc, _, q0, _, _, _, q4, qa⟩ := a6.all;cases H <;> cases i
   case true.true => simp at F
   all_goals
    refine go ?_;by_cases e : x.op = 4
    ·have a2 := a5 e D
     obtain ⟨a, N⟩ : ∃ a, x.args = [a] := by
      match hxa : x.args, a2 with
      | [a], _ => exact ⟨a, rfl⟩
     obtain ⟨a7, b2, rfl, a3⟩ := qa 0 a (by rw [N]; rfl);have q5 := a3.opc;have P : negOk x = decide (a.op = 3) := by unfold negOk; rw [N]
     by_cases R : a.op = 3
     ·rw [if_pos e, P, decide_eq_true R];refine go ?_;exact ⟨rfl, G⟩
     ·rw [if_pos e, P, decide_eq_false R];refine go ?_;refine AN (v := .bool false) rfl rfl rfl (S.E G O) O (fun q c => go ?_);exact ⟨rfl, G.any.trans c.E (fun _ h _ => h), c.D⟩
    ·rw [if_neg e];refine go ?_;exact ⟨rfl, G⟩
 ·have z4 := K.size;unfold bareG;have j : Ext w W := (p.trans K.E).E kW (fun x V => by simp at V; omega);cases t : (DW false f).all bareN with
  | true =>
   rw [if_pos rfl];refine go ?_;refine AN (v := .bool true) rfl rfl rfl C O (fun X A => go ?_);refine Bt ((A.E.block _ (Array.getElem?_eq_some_iff.1 s).1 Dl).trans s) fun w9 g s9 => ?_;exact BA (A9 rfl ((A.D.E g Dl).cell (o := 0) rfl) ⟨rfl, (j.E A.E (fun x V => by simp at V; omega)).E g (fun x V => by simp at V; omega)⟩)
  | false =>
   rw [if_neg O];refine go ?_;refine Bt s fun w9 g s9 => ?_;exact BA (A9 rfl ((C.E g Dl).cell (o := 0) rfl) ⟨rfl, j.E g (fun x V => by simp at V; omega)⟩)
def BD (f : Fml) : Bool := decide (szF f ≤ 400) && decide (dpF f ≤ 60) && bareG f
def kernG (f : Fml) : Bool := decide (szF f ≤ 60) && decide (dpF f ≤ 20) && bareG f
theorem loose_ok (w : World) (b o : Nat) (f : Fml) (I : PF AZ w b o f) (D : GF w) (a : KY w) (c : 10 ≤ w.heap.size) : Fn Zp 51 [.pointer (some ⟨b, o, none⟩)] w fun u w' => u = .bool (BD f) ∧ Ext w w' := by
 refine AG Tryz.func51 rfl Tryz.ntmps51 (go ?_);refine AC (within_ok w b o f 400 60 U U (I.lt.mono fun _ h => h.2)) rfl ?_;rintro _ Q ⟨rfl, X⟩;unfold BD;cases hsz : (decide (szF f ≤ 400) && decide (dpF f ≤ 60)) with
 | false =>
  exact Eb
 | true =>
  simp at hsz;refine go ?_;refine AC (bare_ok Q b o f (I.E X (fun _ _ => by simp)) (D.ext X) (a.E X O) (Nat.le_trans c X.size) U U) rfl ?_;rintro _ L ⟨rfl, l⟩;exact Fc
theorem iskernel_ok (w : World) (v : Value) (f : Fml) (I : FAt AZ w v f) (b : GF w) (d : KY w) (c : 10 ≤ w.heap.size) : Fn Zp 140 [v] w fun u w' => u = .bool (kernG f) ∧ Ext w w' := by
 obtain ⟨t, rfl, A, n⟩ := I.cells;refine AG Tryz.func140 rfl Tryz.ntmps140 (go ?_);refine Aj (L := t) rfl (fun x a => go ?_);have E := a.E;have D : PF AZ x w.heap.size 0 f := ⟨trivial, t, A, a.D.cells, I.ext E⟩;refine go ?_;refine AC (within_ok x w.heap.size 0 f 60 20 U U (D.lt.mono fun _ h => h.2)) rfl ?_;rintro _ Q ⟨rfl, X⟩;unfold kernG;cases hsz : (decide (szF f ≤ 60) && decide (dpF f ≤ 20)) with
 | false =>
  refine go ?_;exact AA rfl ⟨rfl, E.trans X⟩
 | true =>
  simp at hsz;refine go ?_;refine AC (bare_ok Q w.heap.size 0 f (D.E X (fun _ _ => by simp)) (b.ext (E.trans X)) (d.E (E.trans X) O) (Nat.le_trans c (E.trans X).size) U U) rfl ?_;rintro _ e ⟨rfl, l⟩;refine go ?_;exact AA rfl ⟨rfl, (E.trans X).trans l⟩
theorem own_last {w : World} {B e n : Nat} {v : Value} {xs a cs : LV} (h : w.ownsRow B e 5 v (n + 1) (xs ++ a)) (V : xs.length = n * 5) (T : cs.length = 5) :
  ∃ g cap L, v = .slice (sm g) (n + 1) cap ∧ B ≤ g ∧ Blk w g e L ∧ n * 5 + 5 ≤ L.length ∧ ∀ w', Put w w' g e (splice L (n * 5) cs) → w'.ownsRow B e 5 v (n + 1) (xs ++ cs) := by
 obtain ⟨M, f⟩ := h;rcases f with ⟨_, s⟩ | ⟨g, cap, o, rfl, q, z, X, W, R, c⟩
 ·omega
 ·have b : n * 5 + 5 ≤ o.toList.length := by
   have : (n + 1) * 5 ≤ cap * 5 := Nat.mul_le_mul_right 5 X;simp; omega
  refine ⟨g, cap, o.toList, rfl, q, by simpa [Blk] using z, b, fun w' d => ⟨by simp [V, T]; omega, .inr ⟨g, cap, (splice o.toList (n * 5) cs).toArray, rfl, q, d.D, X, W, ?_, ?_⟩⟩⟩
  ·simp [splice, T]; simp at b; omega
  ·have S : o.toList.take (n * 5) = xs := by
    have := congrArg (List.take (n * 5)) c;rw [List.take_take, Nat.min_eq_left U, List.take_append_of_le_length U, ← V, List.take_length] at this;rw [← V]; exact this
   simp only [splice, S];rw [← List.append_assoc, List.take_append_of_le_length (by simp [V, T]; omega), List.take_of_length_le (by simp [V, T]; omega)]
end
section
variable {mk : Prop} [MK mk]
end
theorem strMK : MK True := ⟨trivial⟩

section
variable {mk : Prop} [MK mk]
end
section
variable {mk : Prop} [MK mk]
end
section
variable {mk : Prop} [MK mk]
end
section
variable {mk : Prop} [MK mk]
end
section
variable {mk : Prop} [MK mk]
end
section
variable {mk : Prop} [MK mk]
end
section
variable {mk : Prop} [MK mk]
def CN (l : List Sgn) : Int := if A6 l then BE l else 0
theorem letters1_ok (w : World) (c : LV) : Fn Zp 143 [.agg c.toArray] w fun v w' => v = .bool true ∧ Ext w w' := by
 refine AG Tryz.func143 rfl Tryz.ntmps143 (go ?_);refine Aj (L := c) rfl (fun Q E => go ?_);exact FU
set_option maxHeartbeats 800000 in
theorem count_ok (w : World) (v : Value) (l : List Sgn) (h : SlAt sgnR AZ w v l) (hK : KY w) (hN : 10 ≤ w.heap.size) : Fn Zp 142 [v, .func (.func 143) #[] #[]] w fun u w' => u = iV (CN l) ∧ Ext w w' := by
 have a3 := h.lt (show (0 : Nat) < 3 by omega);obtain ⟨a, c, rfl, b0⟩ := h.len;refine Cx Tryz.func142 rfl Tryz.ntmps142 nlr Dk (go ?_);refine Aj (L := [.slice a l.length c]) rfl (fun w1 n1 => ?_);refine Aj (L := [.func (.func 143) #[] #[]]) rfl (fun w2 n2 => go ?_);have z1 := n1.size;have z2 := n2.size;have k2 : Ext w w2 := n1.E.trans n2.E;have p := n1.D.E n2.E O;have q := n2.D;refine go ?_;refine AC (Dj w2 _ l (h.ext k2) (hK.E k2 O)) rfl ?_;rintro _ m ⟨rfl, k3⟩;have a0 : CN l = if A6 l then BE l else 0 := rfl;cases hv : A6 l with
 | false =>
  rw [hv] at a0;refine go ?_;exact finD_ret1 rfl ⟨by rw [a0]; rfl, k2.trans k3⟩
 | true =>
 rw [hv] at a0;refine go ?_;refine AQ (fun w4 n4 => ?_);refine AN (v := iV 1) rfl rfl rfl n4.D O (fun S p5 => go ?_);have z3 := k3.size;have z4 := n4.size;have z5 := p5.size;have a6 : Ext m S := n4.E.E p5.E O;have a1 := k3.trans a6;replace p := p.E a1 O;replace q := q.E a1 O;have I : Blk S m.heap.size 3 [iV 1] := p5.D;have k5 := k2.trans a1;refine go ?_;refine AC (weights_ok S _ rfl) rfl ?_;rintro _ t ⟨rfl, d⟩;refine go ?_;have z6 := d.size;replace p := p.E d.E O;replace q := q.E d.E O;replace I := I.E d.E O;have Z := d.D;have k6 := k5.trans d.E;refine C_range [] [pt S.heap.size] rfl Dk fun a4 a8 a9 w7 P n s7 m7 r7 => ?_;replace p := p.E n O;replace q := q.E n O;replace I := I.E n O;replace Z := Z.E n O;have e7 := k6.trans n;obtain ⟨X, r⟩ : ∃ X : Nat → World → Prop, ∀ k W, X k W ↔ (Ext w W ∧ Blk W m.heap.size 3 [iV (BE (l.take k))] ∧ Blk W w.heap.size 22 [.slice a l.length c] ∧ Blk W w1.heap.size 202 [.func (.func 143) #[] #[]] ∧ a4 W ∧ W.heap[t.heap.size]? = some (.deferred (some [])) ∧ w7.heap.size ≤ W.heap.size) := ⟨_, fun _ _ => Iff.rfl⟩
 have H : WtsR (.func (.yield (t.heap.size + 1)) #[] #[]) [m.heap.size, t.heap.size + 1] w7.heap.size l X (fun _ => False) := by
  refine ⟨⟨_, rfl⟩, fun y k C => ?_, fun {k W x} y f => ?_⟩
  ·obtain ⟨M, i, Q, g, j, s, j7⟩ := (r _ _).1 y;exact (r _ _).2 ⟨M.E k (fun x f => by have := C x f; omega), i.E k (fun h => by have := C _ h; omega), Q.E k (fun h => by have := C _ h; omega), g.E k (fun h => by have := C _ h; omega), P.rdy j k (fun h => by have := C _ h; omega), (k.block _ (by have := P.lt j; omega) (fun h => by have := C _ h; omega)).trans s, Nat.le_trans j7 k.size⟩
  ·obtain ⟨M, i, Q, g, j, s, j7⟩ := (r _ _).1 y;have b2 := P.lt j;have a2 := (List.getElem?_eq_some_iff.1 f).1;obtain ⟨p1, p2, p3, p4, p5, p6⟩ := prod_bound hv f;refine YldP.mono (R := fun v W' => v = .bool true ∧ Keep [m.heap.size, t.heap.size + 1] W W' ∧ X (k + 1) W') (Y := fun _ _ => False) (P.round j rfl ?_) (fun v W' h => ⟨h.2.1, .inl ⟨h.1, h.2.2⟩⟩) (fun _ _ h => h);refine go ?_;refine ⟨j, fun W2 F b7 y2 => ?_⟩;replace i := i.E F Dl;replace Q := Q.E F Dl;replace g := g.E F Dl;replace s := (F.block _ U O).trans s;have A := M.E F Dl;have a7 : Keep [m.heap.size, t.heap.size + 1] W W2 := F.mono (fun x f => by simp at f; simp [f]);obtain ⟨_, b, o, rfl, hb, G⟩ := (a3.ext A).sig f;refine go ?_;refine AW (rd 0 5 (.alt 5 .done .stop)) Al Dk (fun K N ed => ⟨Ext K, ?_, ?_⟩)
   ·exact EZ
   have f1 : ∀ V, Ext K V → V.cell? ⟨w1.heap.size, 0, none⟩ = some (.func (.func 143) #[] #[]) := fun V e => (g.E (N.trans e) O).cell rfl;have T : ∀ V, Ext K V → V.cell? ⟨w.heap.size, 0, none⟩ = some (.slice (some ⟨b, o, none⟩) l.length c) := fun V e => (Q.E (N.trans e) O).cell rfl;have f3 : ∀ V, Ext K V → Cells V b (o + k * 3) (sgnC x) := fun V e => (G.E (N.trans e) O);refine D_R rfl rfl (fun W B => AM rfl (f1 W B) Z3) (D_R rfl rfl (fun W B => AM rfl (T W B) Z3) (D_R rfl rfl (fun W B => Af rfl Z3) ?_));refine D_R rfl rfl (fun V hV => by refine C5 (k := k) rfl rfl rfl a2 ?_; exact AH ⟨rfl, rfl, rfl⟩) ?_;refine D_R (v := .agg (sgnC x).toArray) rfl rfl (fun V hV => by refine AR (L := sgnC x) rfl rfl (f3 V hV) ?_; exact AH ⟨rfl, rfl, rfl⟩) ?_;refine D_E rfl ?_;refine Av (v1 := []) (v2 := []) (vs := [.agg (sgnC x).toArray]) rfl (letters1_ok K (sgnC x)) rfl ?_;rintro _ W3 ⟨rfl, z⟩;refine AH ⟨Ext K, fun _ e => e, z, ?_⟩;refine go ?_;have q3 := a7.trans (N.trans z) (fun x f => by cases f);replace i := i.E (N.trans z) O;replace Q := Q.E (N.trans z) O;replace g := g.E (N.trans z) O;replace s := ((N.trans z).block _ U O).trans s;replace A := A.trans (N.trans z);replace y2 := P.bsy y2 (N.trans z) O;replace G := G.E (N.trans z) O;clear f1 T f3 z N;refine AW (rd 1 5 (.alt 0 (.read 6 (.alt 7 .done .stop)) .stop)) Al Dk (fun K N ed => ⟨Keep [m.heap.size] K, ?_, ?_⟩)
   ·exact Ep
   have T : ∀ V, Keep [m.heap.size] K V → V.cell? ⟨w.heap.size, 0, none⟩ = some (.slice (some ⟨b, o, none⟩) l.length c) := fun V e => ((Q.E N O).E e Dl).cell rfl;have f3 : ∀ V, Keep [m.heap.size] K V → V.cell? ⟨b, o + k * 3 + 2, none⟩ = some (iV x.size) := fun V e => ((G.E N O).E e (by have := hb.2; simp; omega)) 2 _ rfl;refine D_R rfl rfl (fun W B => AM rfl (T W B) Z3) (D_R rfl rfl (fun W B => Af rfl Z3) ?_);refine D_R rfl rfl (fun V hV => by refine C5 (k := k) rfl rfl rfl a2 ?_; exact AH ⟨rfl, rfl, rfl⟩) ?_;refine go ?_;refine D_E rfl ?_;refine AM rfl ((i.E N O).cell rfl) ?_;refine AH ⟨Keep [m.heap.size] K, fun _ e => e, Keep.refl _ _, ?_⟩;refine go ?_;refine D_E rfl ?_;refine AN (v := iV (BE (l.take k) * x.size)) rfl rfl rfl (i.E N O) O (fun W5 pp => ?_);refine AH ⟨Keep [m.heap.size] K, fun _ e => e, pp.E, ?_⟩;refine go ?_;have D : Keep [m.heap.size] W3 W5 := N.any.trans pp.E (fun x f _ => f);have y3 := P.bsy y2 D Dl;have q5 : Keep [m.heap.size, t.heap.size + 1] W W5 := q3.trans D (fun x f _ => by simp at f; simp [f]);replace Q := Q.E D Dl;replace g := g.E D Dl;replace s := (D.block _ (by have := q3.size; omega) Dl).trans s;replace A := A.E D Dl;have i : Blk W5 m.heap.size 3 [iV (BE (l.take k) * x.size)] := pp.D;have b3 := q5.size;refine go ?_;refine Q_rnd y3 fun W6 E z6 y6 => ⟨rfl, q5.trans E (fun x f _ => by simp at f; simp [f]), (r _ _).2 ⟨A.E E Dl, ?_, Q.E E Dl, g.E E Dl, y6, (E.block _ U O).trans s, by omega⟩⟩;rw [prodS_take f];exact i.E E Dl
 have b4 : w7.heap.size = t.heap.size + 2 := s7;refine Fn.mono (weightsIt_ok w7 S.heap.size (.slice a l.length c) l H Z (((a3.ext e7)).mono fun x f => by have := f.2; simp; omega) hv ((r _ _).2 ⟨e7, I, p, q, r7, m7, Nat.le_refl _⟩) Dl) ?_;rintro v w8 ⟨_, y | hh⟩
 case inr => exact hh.elim
 obtain ⟨M, i, Q, g, j, s, j7⟩ := (r _ _).1 y;have b1 := P.lt j;refine .inl ⟨j, fun w9 k9 s9 => ?_⟩;clear r H y P r7 m7 Z;rw [List.take_length] at i;replace i := i.E k9 Dl;replace s := (k9.block _ U O).trans s;have e9 := M.E k9 Dl;refine go ?_;refine Bt s fun b6 a5 b5 => ?_;exact finD_ret1 rfl ⟨by rw [a0]; rfl, e9.E a5 Dl⟩
theorem letters_ok (w : World) (v : Value) (l : List Sgn) (h : SlAt sgnR AZ w v l) (b : KY w) (d : 10 ≤ w.heap.size) : Fn Zp 98 [v] w fun u w' => u = iV (CN l) ∧ Ext w w' := by
 obtain ⟨a, c, rfl, I⟩ := h.len;refine AG Tryz.func98 rfl Tryz.ntmps98 (go ?_);refine AC (count_ok w _ l h b d) rfl ?_;rintro _ Q ⟨rfl, X⟩;exact Eb
def valS (l : List Sgn) (x : Int) (i : Nat) : Int := match l[i]? with
 | some s => x / BE (l.take i) % s.size
 | none => 0
theorem num_valid {l : List Sgn} (h : A6 l = true) : CN l = BE l ∧ BE l ≤ 64 := by
 unfold CN;rw [if_pos h];exact ⟨rfl, (DI h).2.2.2⟩
set_option maxHeartbeats 1600000 in
theorem value_ok (w : World) (v : Value) (l : List Sgn) (x : Int) (i : Nat) (h : SlAt sgnR AZ w v l) (hK : KY w) (hN : 10 ≤ w.heap.size) (hv : A6 l = true) (a2 : 0 ≤ x) (b7 : x < CN l) (hi : i < l.length) :
  Fn Zp 144 [v, iV x, iV (i : Int)] w fun u w' => u = iV (valS l x i) ∧ Ext w w' := by
 have a1 := h.lt (show (0 : Nat) < 3 by omega);obtain ⟨a, c, rfl, b4⟩ := h.len;obtain ⟨s, hs⟩ : ∃ s, l[i]? = some s := ⟨_, List.getElem?_eq_getElem hi⟩;have b1 : valS l x i = x / BE (l.take i) % s.size := by unfold valS; rw [hs]
 obtain ⟨b9, c0⟩ := num_valid hv;refine Cx Tryz.func144 rfl Tryz.ntmps144 nlr Dk (go ?_);refine Aj (L := [.slice a l.length c]) rfl (fun w1 n1 => ?_);refine Aj (L := [iV x]) rfl (fun w2 n2 => ?_);refine Aj (L := [iV (i : Int)]) rfl (fun m n3 => ?_);refine AQ (fun w4 T => go ?_);have z1 := n1.size;have z2 := n2.size;have z3 := n3.size;have z4 := T.size;have r := n1.D.E (n2.E.trans (n3.E.trans T.E)) O;have z := n2.D.E (n3.E.trans T.E) O;have t := n3.D.E T.E O;have F : Blk w4 m.heap.size 3 [iV 0] := T.D;have k4 : Ext w w4 := ((n1.E.trans n2.E).trans n3.E).trans T.E;refine AW (rd 0 5 (.alt 5 (rd 6 12 .done) .stop)) Al Dk (fun K N ed => ⟨Ext K, ?_, ?_⟩)
 ·exact EZ
 have f1 : ∀ V, Ext K V → V.cell? ⟨w.heap.size, 0, none⟩ = some (.slice a l.length c) := fun V e => (r.E (N.trans e) O).cell rfl;have f2 : ∀ V, Ext K V → V.cell? ⟨w1.heap.size, 0, none⟩ = some (iV x) := fun V e => (z.E (N.trans e) O).cell rfl;have f3 : ∀ V, Ext K V → V.cell? ⟨w2.heap.size, 0, none⟩ = some (iV (i : Int)) := fun V e => (t.E (N.trans e) O).cell rfl;refine D_R rfl rfl (fun W B => AM rfl (f2 W B) Z3) (go ?_);refine D_E rfl (go ?_);refine AC (letters_ok K _ l (h.ext (k4.trans N)) (hK.E (k4.trans N) O) (Nat.le_trans hN (k4.trans N).size)) rfl ?_;rintro _ w5 ⟨rfl, k5⟩;refine AH ⟨Ext K, fun _ e => e, k5, ?_⟩;refine go ?_;have S := N.trans k5;clear f1 f2 f3;replace r := r.E S O;replace z := z.E S O;replace t := t.E S O;replace F := F.E S O;have e5 := k4.trans S;refine go ?_;refine AC (weights_ok w5 _ rfl) rfl ?_;rintro _ C ⟨rfl, d⟩;refine go ?_;have z5 := S.size;have z6 := d.size;replace r := r.E d.E O;replace z := z.E d.E O;replace t := t.E d.E O;replace F := F.E d.E O;have b6 := d.D;have e6 := e5.trans d.E;refine C_range [] [pt w5.heap.size] rfl Dk fun a6 b2 a5 w7 P n s7 m7 r7 => ?_;replace r := r.E n O;replace z := z.E n O;replace t := t.E n O;replace F := F.E n O;replace b6 := b6.E n O;have e7 := e6.trans n;obtain ⟨a0, g⟩ : ∃ a0 : Nat → World → Prop, ∀ k W, a0 k W ↔ (k ≤ i ∧ Ext w W ∧ Blk W m.heap.size 3 [iV 0] ∧ Blk W w.heap.size 22 [.slice a l.length c] ∧ Blk W w1.heap.size 3 [iV x] ∧ Blk W w2.heap.size 3 [iV (i : Int)] ∧ a6 W ∧ W.heap[C.heap.size]? = some (.deferred (some [])) ∧ w7.heap.size ≤ W.heap.size) := ⟨_, fun _ _ => Iff.rfl⟩;obtain ⟨D, hD⟩ : ∃ D : World → Prop, ∀ W, D W ↔ (Ext w W ∧ Blk W m.heap.size 3 [iV (valS l x i)] ∧ a5 .ret W ∧ W.heap[C.heap.size]? = some (.deferred (some [])) ∧ w7.heap.size ≤ W.heap.size) := ⟨_, fun _ => Iff.rfl⟩
 have H : WtsR (.func (.yield (C.heap.size + 1)) #[] #[]) [m.heap.size, C.heap.size + 1] w7.heap.size l a0 D := by
  refine ⟨⟨_, rfl⟩, fun Z k G => ?_, fun {k W y} Z hy => ?_⟩
  ·obtain ⟨j0, j1, p, Q, M, A, j, q, j7⟩ := (g _ _).1 Z;exact (g _ _).2 ⟨j0, j1.E k (fun x f => by have := G x f; omega), p.E k (fun h => by have := G _ h; omega), Q.E k (fun h => by have := G _ h; omega), M.E k (fun h => by have := G _ h; omega), A.E k (fun h => by have := G _ h; omega), P.rdy j k (fun h => by have := G _ h; omega), (k.block _ (by have := P.lt j; omega) (fun h => by have := G _ h; omega)).trans q, Nat.le_trans j7 k.size⟩
  ·obtain ⟨j0, j1, p, Q, M, A, j, q, j7⟩ := (g _ _).1 Z;have b5 := P.lt j;have b0 := (List.getElem?_eq_some_iff.1 hy).1;obtain ⟨p1, p2, p3, p4, p5, p6⟩ := prod_bound hv hy;refine YldP.mono (R := fun v W' => Keep [m.heap.size, C.heap.size + 1] W W' ∧ ((v = .bool true ∧ a0 (k + 1) W') ∨ (v = .bool false ∧ D W'))) (Y := fun _ _ => False) (P.round j rfl ?_) (fun v W' h => h) (fun _ _ h => h);refine go ?_;refine ⟨j, fun W2 I c3 y2 => ?_⟩;replace p := p.E I Dl;replace Q := Q.E I Dl;replace M := M.E I Dl;replace A := A.E I Dl;replace q := (I.block _ U O).trans q;have X := j1.E I Dl;have a4 : Keep [m.heap.size, C.heap.size + 1] W W2 := I.mono (fun x f => by simp at f; simp [f]);refine go ?_;have ci := A.cell (o := 0) rfl;by_cases a9 : k = i
   ·subst a9;rw [hs] at hy; cases hy;refine go ?_;obtain ⟨_, b, o, rfl, hb, a8⟩ := (a1.ext X).sig hs;have b3 : 0 ≤ x / BE (l.take k) ∧ x / BE (l.take k) ≤ x := ⟨Int.ediv_nonneg a2 U, Int.ediv_le_self _ a2⟩;refine AW (rd 0 9 (.alt 9 .done .stop)) Al Dk (fun K N ed => ⟨Keep [m.heap.size] K, ?_, ?_⟩)
    ·exact Ep
    have g1 : ∀ V, Keep [m.heap.size] K V → V.cell? ⟨w.heap.size, 0, none⟩ = some (.slice (some ⟨b, o, none⟩) l.length c) := fun V e => ((Q.E N O).E e Dl).cell rfl;have g2 : ∀ V, Keep [m.heap.size] K V → V.cell? ⟨w1.heap.size, 0, none⟩ = some (iV x) := fun V e => ((M.E N O).E e Dl).cell rfl;have g3 : ∀ V, Keep [m.heap.size] K V → V.cell? ⟨w2.heap.size, 0, none⟩ = some (iV (k : Int)) := fun V e => ((A.E N O).E e Dl).cell rfl;have g4 : ∀ V, Keep [m.heap.size] K V → V.cell? ⟨b, o + k * 3 + 2, none⟩ = some (iV s.size) := fun V e => ((a8.E N O).E e (by have := hb.2; simp; omega)) 2 _ rfl;(refine D_R rfl rfl (fun W B => AM rfl (g2 W B) Z3) (D_R rfl rfl (fun W B => Af rfl Z3) ?_) <;> (apply D_R rfl rfl; (intro W B; refine W_quo rfl rfl U U Du ?_; exact Z3)) <;> refine D_R rfl rfl (fun W B => AM rfl (g1 W B) Z3) (D_R rfl rfl (fun W B => AM rfl (g3 W B) Z3) ?_))
    refine D_R rfl rfl (fun V hV => by refine C5 (k := k) rfl rfl rfl b0 ?_; exact AH ⟨rfl, rfl, rfl⟩) ?_;refine go ?_;refine D_E rfl ?_;refine AN (v := iV (x / BE (l.take k) % s.size)) rfl rfl rfl (p.E N O) O (fun W5 pp => ?_);refine AH ⟨Keep [m.heap.size] K, fun _ e => e, pp.E, ?_⟩;refine go ?_;have kk : Keep [m.heap.size] W2 W5 := N.any.trans pp.E (fun x f _ => f);have y3 := P.bsy y2 kk Dl;have q5 : Keep [m.heap.size, C.heap.size + 1] W W5 := a4.trans kk (fun x f _ => by simp at f; simp [f]);replace q := (kk.block _ U Dl).trans q;replace X := X.E kk Dl;have p : Blk W5 m.heap.size 3 [iV (x / BE (l.take k) % s.size)] := pp.D;have hs5 := q5.size;refine go ?_;refine Q_rnd_ret y3 fun W6 E z6 y6 => ⟨q5.trans E (fun x f _ => by simp at f; simp [f]), .inr ⟨rfl, (hD _).2 ⟨X.E E Dl, ?_, y6, (E.block _ U O).trans q, by omega⟩⟩⟩;rw [b1];exact p.E E Dl
   ·refine go ?_;refine Q_rnd y2 fun W6 E z6 y6 => ⟨a4.trans E (fun x f _ => by simp at f; simp [f]), .inl ⟨rfl, (g _ _).2 ⟨by omega, X.E E Dl, p.E E Dl, Q.E E Dl, M.E E Dl, A.E E Dl, y6, (E.block _ U O).trans q, by omega⟩⟩⟩
 have b8 : w7.heap.size = C.heap.size + 2 := s7;refine Fn.mono (weightsIt_ok w7 w5.heap.size (.slice a l.length c) l H b6 (((a1.ext e7)).mono fun x f => by have := f.2; simp; omega) hv ((g _ _).2 ⟨by omega, e7, F, r, z, t, r7, m7, Nat.le_refl _⟩) Dl) ?_;rintro v w8 ⟨_, Z | hd⟩
 ·obtain ⟨j0, _⟩ := (g _ _).1 Z;omega
 obtain ⟨j1, p, j, q, j7⟩ := (hD _).1 hd;refine .inr ⟨.ret, j, fun w9 k9 s9 => ?_⟩;clear g H hD hd P r7 m7 b6;replace p := p.E k9 Dl;replace q := (k9.block _ U O).trans q;have e9 := j1.E k9 Dl;unfold behind;simp only;refine go ?_;refine Bt q fun c2 a3 c1 => ?_;have a7 := (p.E a3 Dl).cell (o := 0) rfl;exact BA (A9 rfl a7 ⟨rfl, e9.E a3 Dl⟩)
def valsC (S : List Sgn) (x : Int) (n : Nat) : LV := (List.range n).map fun i => iV (valS S x i)
theorem valsC_succ (S : List Sgn) (x : Int) (n : Nat) : valsC S x (n + 1) = valsC S x n ++ [iV (valS S x n)] := by
 unfold valsC; rw [List.range_succ, List.map_append]; rfl
theorem valsC_len (S : List Sgn) (x : Int) (n : Nat) : (valsC S x n).length = n := by simp [valsC]
theorem madeInt : (madeCells (iV 0).cells (1 * 1)).toList = [iV 0] := by kernel_rfl
theorem own_oneC' {w : World} {B e size n : Nat} {v : Value} {xs : LV} (h : w.ownsRow B e size v n xs) : v.oneCell' = true := by
 rcases h.2 with ⟨rfl, _⟩ | ⟨g, x, o, rfl, _⟩ <;> rfl
end
section
variable {mk : Prop} [MK mk]
end
section
variable {mk : Prop} [MK mk]
def vlS (S : List Sgn) (x : Int) : Vl := fun o => match S.findIdx? (fun y => decide (y.name = o)) with
 | some i => valS S x i
 | none => 0
def knS (S : List Sgn) (nm : LU) (v : Int) : Bool := match S.findIdx? (fun y => decide (y.name = nm)) with
 | some i => match S[i]? with
  | some s => decide (v < s.size)
  | none => false
 | none => false
theorem kn_find {S : List Sgn} {nm : LU} {v : Int} (h : knS S nm v = true) : ∃ i s, S.findIdx? (fun y => decide (y.name = nm)) = some i ∧ S[i]? = some s ∧ v < s.size := by
 unfold knS at h
 split at h
 ·rename_i i hi
  split at h
  ·rename_i s hs;exact ⟨i, s, hi, hs, by simpa using h⟩
  ·cases h
 ·cases h
theorem own_ints {w : World} {B e n : Nat} {v : Value} {L : LV} (h : w.ownsRow B e 1 v n L) : ∃ a c, v = .slice a n c ∧ ∀ i u, L[i]? = some u → ∃ g o, a = some ⟨g, o, none⟩ ∧ w.cell? ⟨g, o + i, none⟩ = some u := by
 obtain ⟨a, c, rfl, _, _, _, d⟩ := AV (ok := AZ) h fun _ _ => trivial;refine ⟨a, c, rfl, fun i u r => ?_⟩;rcases d with s | ⟨b, o, e, _, T⟩
 ·have := (List.getElem?_eq_some_iff.1 r).1;have := h.1; omega
 ·exact ⟨b, o, e, T i u r⟩
theorem formM_kind (N : Int) : (BJ N).past = pstB N ∧ (BJ N).future = futB N ∧ (BJ N).loose = looseO N := by
 by_cases h : isOpB N = true
 ·have X : 1 ≤ N ∧ N < 20 := by simpa [isOpB] using h
  have A : BJ N = formsL.getD N.toNat zeroForm := by unfold BJ; rw [if_pos h]
  rw [A];have : N = 1 ∨ N = 2 ∨ N = 3 ∨ N = 4 ∨ N = 5 ∨ N = 6 ∨ N = 7 ∨ N = 8 ∨ N = 9 ∨ N = 10 ∨ N = 11 ∨ N = 12 ∨ N = 13 ∨ N = 14 ∨ N = 15 ∨ N = 16 ∨ N = 17 ∨ N = 18 ∨ N = 19 := by omega
  rcases this with rfl | rfl | rfl | rfl | rfl | rfl | rfl | rfl | rfl | rfl | rfl | rfl | rfl | rfl | rfl | rfl | rfl | rfl | rfl <;> exact ⟨rfl, rfl, rfl⟩
 ·have X : ¬(1 ≤ N ∧ N < 20) := by simpa [isOpB] using h
  have A : BJ N = zeroForm := by unfold BJ; rw [if_neg h]
  rw [A];refine ⟨?_, ?_, ?_⟩
  ·show false = pstB N
   symm; simp [pstB]; omega
  ·show false = futB N
   symm; simp [futB]; omega
  ·show false = looseO N
   symm; simp [looseO]; omega
theorem bareB_eq (i : Bool) (N : Int) (nm : LU) (v b : Int) (args : LF) : BC i (.mk N nm v b args) = (looseO N && Bp N nm v b args.length && !(i && futB N) && (if N = 4 then negOk (.mk N nm v b args) else true) && bareL (i || pstB N) args) := by
 cases args <;> simp only [BC] <;> rfl
theorem bareN_eq (N : Int) (nm : LU) (v b : Int) (args : LF) (i : Bool) (n : args.length ≤ 1000000) : bareN (.mk N nm v b args, i) = (looseO N && Bp N nm v b args.length && !(i && futB N) && (if N = 4 then negOk (.mk N nm v b args) else true)) := by
 obtain ⟨_, W, R⟩ := formM_kind N;unfold bareN;simp only;rw [shapeF_eq (.mk N nm v b args) n];show ((BJ N).loose && Bp N nm v b args.length && !((BJ N).future && i) && (if N = 4 then negOk (.mk N nm v b args) else true)) = _;rw [W, R, Bool.and_comm (futB N) i]
theorem bareG_aux : ∀ (n : Nat) (f : Fml) (i : Bool), szF f ≤ n → n ≤ 1000000 → (DW i f).all bareN = BC i f
 | 0, f, i, hz, _ => by rw [Bd] at hz; omega
 | n + 1, .mk op nm v b args, i, hz, hn => by
  rw [Bd] at hz;have C : szL args + 1 ≤ n + 1 := hz
  have M : ∀ (l : LF) (j : Bool), (∀ a ∈ l, a ∈ args) → (C8 j l).all bareN = bareL j l := by
   intro l
   induction l with
   | nil => intro j _; rfl
   | cons a l ih =>
    intro j A;have X := Bq (A a O);rw [C8, List.all_append, bareG_aux n a j U U, bareL, ih j fun c T => A c Dw]
  rw [DW, List.all_cons, bareN_eq _ _ _ _ _ _ (by have := Bv args; omega), M args _ (fun a h => h), bareB_eq, (formM_kind op).1]
theorem bareG_eq {f : Fml} (n : szF f ≤ 1000000) : bareG f = BC false f := bareG_aux _ f false n (Nat.le_refl _)
end
instance weakMK : MK False := ⟨trivial⟩
section
open Go.Shelf Go.Sort
theorem ext_grow {w w' : World} (k : Ext w w') : ∃ q T, w' = grow (w.drewN q) T := by
 refine ⟨w'.drawn - w.drawn, w'.heap.extract w.heap.size w'.heap.size, ?_⟩;have X := k.os;have W := k.tape;have R := k.output;have b := k.drawn;have P := k.size;have a := k.block;obtain ⟨y, c, x, T, e⟩ := w;obtain ⟨v, u, t, s, r⟩ := w';simp only at X W R b P a;subst X W R;simp only [grow, World.drewN, World.mk.injEq, and_true, true_and];refine ⟨?_, by omega⟩;apply Array.ext_getElem?;intro i;rw [Array.getElem?_append];by_cases F : i < y.size
 ·rw [if_pos F]; exact a i F O
 ·rw [if_neg F];simp only [Array.getElem?_extract];by_cases d : i < v.size
  ·rw [if_pos U]; congr 1; omega
  ·rw [if_neg U]; exact Array.getElem?_eq_none U
def Cel (ok : Nat → Prop) (w : World) : Type := { p : LV × Fml // p.1.length = 5 ∧ szF p.2 ≤ 1000000 ∧ FAt ok w (.agg p.1.toArray) p.2 }
instance (ok : Nat → Prop) (w : World) : Inhabited (Cel ok w) := ⟨⟨(zero5, Ae), rfl, by decide, FAt.leaf ok w 0 [] 0 0⟩⟩
section
variable {ok : Nat → Prop} {w : World}
def encC (x : Cel ok w) : LV := x.1.1
def fmlC (x : Cel ok w) : Fml := x.1.2
theorem encC_len (x : Cel ok w) : (encC x).length = 5 := x.2.1
theorem encC_one (x : Cel ok w) : ∀ v ∈ encC x, v.oneCell' = true := by
 obtain ⟨c, e, _, h⟩ := x.2.2.2.cells;have : x.1.1 = c := by simpa using e
 unfold encC;rw [this];exact h
theorem cel_list : ∀ {l : LF} {L : List (LV)}, FsAt ok w L l → (∀ x ∈ l, szF x ≤ 1000000) → ∃ D : List (Cel ok w), D.map encC = L ∧ D.map fmlC = l
 | [], L, h, _ => ⟨[], by have := List.eq_nil_of_length_eq_zero (l := L) (by simpa using h.1); simp [this], rfl⟩
 | x :: l, [], h, _ => by have := h.1; simp at this
 | x :: l, c :: L, h, hz => by
  obtain ⟨D, X, W⟩ := cel_list (l := l) (L := L) ⟨by simpa using h.1, fun c T => h.2.1 c Dw, fun i c g T z => h.2.2 (i + 1) c g (by simpa using T) EC⟩ (fun y K => hz y (by simp [K]));exact ⟨⟨(c, x), h.2.1 c O, hz x O, h.2.2 0 c x rfl rfl⟩ :: D, congrArg (c :: ·) X, congrArg (x :: ·) W⟩
theorem cel_fs (D : List (Cel ok w)) : FsAt ok w (D.map encC) (D.map fmlC) := by
 refine ⟨by simp, fun c T => ?_, fun i c g T z => ?_⟩
 ·obtain ⟨x, _, rfl⟩ := List.mem_map.1 T;exact encC_len x
 ·rw [List.getElem?_map] at T z;cases hx : D[i]? with
  | none => rw [hx] at T; cases T
  | some x =>
   rw [hx] at T z;cases T; cases z;exact x.2.2.2
end
theorem flatK_list {α : Type} [Inhabited α] (enc : α → LV) (P : ∀ x, (enc x).length = 5) (D : Array α) : (flatK enc 5 D).toList = (D.toList.map enc).flatten := by
 have M : ((D.toList.map enc).flatten).length = D.size * 5 := by rw [CC 5 _ (fun c T => by obtain ⟨x, _, rfl⟩ := List.mem_map.1 T; exact P x)]; simp
 refine List.ext_getElem? fun t => ?_;by_cases S : t < D.size * 5
 ·have C : t / 5 < D.size := by omega
  have d : (flatK enc 5 D).toList[t]? = some (enc D[t / 5]!)[t % 5]! := by
   have b : t < (flatK enc 5 D).size := by simpa using S
   rw [Array.getElem?_toList, Array.getElem?_eq_getElem b, ← get_flatK enc 5 D t S, getElem!_pos (flatK enc 5 D) t b]
  rw [d]
  symm
  have z : (enc D[t / 5]!)[t % 5]? = some (enc D[t / 5]!)[t % 5]! := by
   have A : t % 5 < (enc D[t / 5]!).length := by rw [P]; omega
   rw [List.getElem?_eq_getElem A, getElem!_pos (enc D[t / 5]!) (t % 5) A]
  have a := CH 5 (D.toList.map enc) (t / 5) (t % 5) (enc D[t / 5]!) (enc D[t / 5]!)[t % 5]! (fun c T => by obtain ⟨x, _, rfl⟩ := List.mem_map.1 T; exact P x) (by rw [List.getElem?_map, Array.getElem?_toList, Array.getElem?_eq_getElem C, getElem!_pos D (t / 5) C]; rfl) z;rw [show t / 5 * 5 + t % 5 = t by omega] at a;exact a
 ·rw [List.getElem?_eq_none Dl, List.getElem?_eq_none U]
theorem swo_cmp {ok : Nat → Prop} {w : World} : SWO (ltOf fun (x y : Cel ok w) => BO (fmlC x) (fmlC y)) where
 irrefl x := by simp only [ltOf, decide_eq_false_iff_not]; exact cmp_irr _
 trans x y z h1 h2 := by
  simp only [ltOf, decide_eq_true_eq] at h1 h2 ⊢;exact DG _ _ _ h1 h2
 ntrans x y z h1 h2 := by
  simp only [ltOf, decide_eq_false_iff_not] at h1 h2 ⊢;intro R;have M := cmpF_flip (fmlC x) (fmlC y);by_cases s : BO (fmlC x) (fmlC y) = 0
  ·rw [(CL _ _).1 s] at R; exact h2 R
  ·exact h2 (DG _ _ _ U R)
theorem sortW_at {ok : Nat → Prop} {w : World} {g e : Nat} {o : Array Value} {D : Array (Cel ok w)} (z : w.heap[g]? = some (.cells o e (0, 0))) (F : D.size * 5 ≤ o.size) (m : Nat) (T : Array Obj) :
  Keep [g] w (sortWorldK encC 5 w g 0 m D T) ∧ ∃ K : Array Value, (sortWorldK encC 5 w g 0 m D T).heap[g]? = some (.cells K e (0, 0)) ∧ K.size = o.size ∧ K.toList.take (D.size * 5) = (D.toList.map encC).flatten := by
 have y : g < w.heap.size := (Array.getElem?_eq_some_iff.1 z).1;have u : (sortWorldK encC 5 w g 0 m D T).heap = w.heap.modify g (onCells (putCells id 0 (flatK encC 5 D))) ++ T := rfl;refine ⟨⟨rfl, rfl, rfl, by rw [u]; simp, fun b c V => ?_, fun h => h.elim, Nat.le_add_right _ _⟩, putCells id 0 (flatK encC 5 D) o, ?_, by simp [putCells], ?_⟩
 ·rw [u, Array.getElem?_append_left (by simpa using c), Array.getElem?_modify, if_neg (by simp at V; omega)]
 ·rw [u, Array.getElem?_append_left (by simpa using y), Array.getElem?_modify, if_pos rfl, z];rfl
 ·rw [← flatK_list encC encC_len];refine List.ext_getElem? fun t => ?_;rw [List.getElem?_take];by_cases S : t < D.size * 5
  ·rw [if_pos S];have a : t < (flatK encC 5 D).size := by simpa using S
   have d : t < o.size := by omega
   simp only [putCells, Array.getElem?_toList, Array.getElem?_mapIdx, Array.getElem?_eq_getElem d, Option.map_some];rw [if_pos ⟨Nat.zero_le _, by omega⟩, Array.getElem?_eq_getElem a, Nat.sub_zero, getElem!_pos (flatK encC 5 D) t a];rfl
  ·rw [if_neg S, List.getElem?_eq_none Dl]
def Srt (l : LF) : Prop := l.Pairwise fun a b => ¬ BO b a < 0
abbrev cmpV : Value := .func (.func 16) #[] #[]
theorem sort_ok (w : World) (B : Nat) (v : Value) (l : LF) (L : List (LV)) (ok : Nat → Prop) (ho : w.ownsRow B 36 5 v l.length L.flatten) (W : FsAt ok w L l)
  (f : ∀ b, ok b → Unm w b ∧ b < w.heap.size ∧ v.ownBlock ≠ some b) (hz : ∀ x ∈ l, szF x ≤ 1000000) (hn : l.length < 4611686018427387904) :
  Fn Zp 180 [v, cmpV] w fun u w' => u = .tuple #[] ∧ Keep v.ownBlock.toList w w' ∧ ∃ M A, A.Perm l ∧ Srt A ∧ w'.ownsRow B 36 5 v l.length M.flatten ∧ FsAt ok w' M A := by
 rcases ho.2 with ⟨rfl, h0⟩ | ⟨g, N, o, rfl, hB, z, a0, a2, Z, ht⟩
 ·have q := AnyF.slices_SortFunc_none (P := Zp) Tryz.sortF none 0 cmpV w;change Calls Zp 180 _ _ _ at q;have hl : l = [] := List.eq_nil_of_length_eq_zero h0;subst hl;refine Calls.mono q ?_;rintro e w' ⟨rfl, rfl⟩;exact ⟨rfl, Keep.refl _ _, L, [], List.Perm.refl _, List.Pairwise.nil, ho, W⟩
 ·obtain ⟨D, a1, R⟩ := cel_list W hz;have a : D.length = l.length := by rw [← R]; simp
  have a5 : g < w.heap.size := (Array.getElem?_eq_some_iff.1 z).1;have H : ∀ b, ok b → b ∉ [g] := fun b S V => by simp at V; exact (f b S).2.2 (by rw [V]; rfl)
  have X : l.length * 5 ≤ o.size := by rw [Z]; exact Nat.mul_le_mul_right _ a0
  have hH : HoldsK encC 5 w g 0 D.toArray := by
   intro j r;have E : j < l.length * 5 := by simpa [a] using r
   have s : j < (flatK encC 5 D.toArray).size := r
   have d : (flatK encC 5 D.toArray).toList[j]? = o.toList[j]? := by
    rw [flatK_list encC encC_len];show (D.map encC).flatten[j]? = _;rw [a1, ← ht, List.getElem?_take, if_pos E]
   rw [Array.getElem?_toList, Array.getElem?_toList, Array.getElem?_eq_getElem s] at d;constructor
   ·rw [Nat.zero_add, getElem!_pos _ j s];simp only [World.cell?, z];exact d.symm
   ·simp [World.frozen?, z]
  have eg : ∀ I w, (callFunc 16 I).run Zp w = .ok (.enter 16 I) w := enters_of Tryz.func16 Dk rfl
  have a3 : CmpLays Zp 16 #[] (encC (ok := ok) (w := w)) 5 (fun x y => BO (fmlC x) (fmlC y)) g 0 D.toArray.size w := by
   intro m t Q a4 x y;obtain ⟨T, _⟩ := sortW_at z (D := Q) (by rw [a4]; simpa [a] using X) m t;have h := fcompare_ok (sortWorldK encC 5 w g 0 m Q t) (.agg (encC x).toArray) (.agg (encC y).toArray) (fmlC x) (fmlC y) ok ok (x.2.2.2.E T H) (y.2.2.2.E T H) (.inl fun b S => (f b S).1.eq (T.block b (f b S).2.1 (H b S))) x.2.2.1;refine Calls.mono h ?_;intro e w' F;cases e with
   | returned u =>
    obtain ⟨rfl, k⟩ := F;exact ⟨rfl, ext_grow k⟩
   | panicked ch => exact F.elim
   | outgrown => exact F.elim
  have q := AnyQ.slices_SortFunc (P := Zp) Tryz.sortF 5 Tryz.isAgg36 Tryz.sizeOf36 encC encC_len encC_one (fun x y => BO (fmlC x) (fmlC y)) swo_cmp 16 #[] g 0 N D.toArray w eg a3 hH a5 (by simpa [a] using hn);change Calls Zp 180 _ _ _ at q;have C : D.toArray.size = l.length := by simpa using a
  rw [C] at q;refine Calls.mono q ?_;rintro e w' ⟨rfl, p, n, t, hp, s, rfl⟩;obtain ⟨p1, _, p3⟩ := hp;have G : p.size = l.length := by rw [p1, C]
  obtain ⟨T, K, g1, g2, g3⟩ := sortW_at z (D := p) (by rw [G]; exact X) n t
  have a8 : p.toList.Perm D := by
   have d : p.extract 0 l.length = p := by rw [← G]; simp
   have e2 : D.toArray.extract 0 l.length = D.toArray := by rw [← C]; simp
   rw [d, e2] at p3;exact p3
  refine ⟨rfl, T, p.toList.map encC, p.toList.map fmlC, by rw [← R]; exact a8.map fmlC, ?_, ⟨?_, .inr ⟨g, N, K, rfl, hB, g1, a0, a2, g2.trans Z, ?_⟩⟩, ?_⟩
  ·unfold Srt;rw [List.pairwise_map, List.pairwise_iff_getElem];intro i j hi r a7;have a6 : i < p.size := by simpa using hi
   have E : j < p.size := by simpa using r
   have h := s i j (Nat.zero_le _) a7 U;rw [getElem!_pos p j E, getElem!_pos p i a6] at h;simp only [ltOf, decide_eq_false_iff_not] at h;simpa using h
  ·rw [CC 5 _ (fun c hc => by obtain ⟨x, _, rfl⟩ := List.mem_map.1 hc; exact encC_len x)]; simp [G]
  ·rw [← G]; exact g3
  ·exact (cel_fs p.toList).E T H
end
section
variable {mk : Prop} [MK mk]
section
attribute [local semireducible] WC AO Bi BH Be Cq DN BU
variable {P : Program} {all : Array Oper} {Z : Fr → DS → List PanicEntry → World → Prop} {K : Fr → DS → World → Prop} {rest : List Oper} {f : Fr} {ds : DS} {w : World}
 {d : Nat} {ty xt yt : TypeId} {pos : String} {af : Array Edge} {x y : Operand}
theorem W_slice_hm {T e size N : Nat} {z : Value} {F b : Operand} {a : Option Addr} {n c : Nat} {k i : IntKind} {h m : Nat} [hT : SlT P T e size N z] (V : ev f x = .slice a n c) (u : ev f F = .int k (h : Int)) (A : ev f b = .int i (m : Int)) (X : h ≤ m) (W : m ≤ c)
  (g : AO P all Z K rest (upd f d (.slice a h m)) ds w) : AO P all Z K (⟨some d, .slice T x none (some F) (some b), ty, pos, af, none⟩ :: rest) f ds w := by
 obtain ⟨q, H, _, D, _⟩ := hT.out;refine Aq rfl ?_ g;simp only [execOp, V, u, A, Option.map_some, Option.map_none, Instr.sliceAt, Sem.run_bind, run_underlying hT.und, Result.andThen_ok, Instr.slice, Instr.sliceBounds, Instr.sliceBound, asIntOf, Sem.run_pure, sizeOf, typeInfo, program]
 have e : (if m = 0 then a else a.map fun (x : Addr) => x.add 0) = a := by
  split
  ·rfl
  ·cases a with
   | none => rfl
   | some a => simp [Addr.add]
 simp [Sem.run, H, D, show (m : Int) ≤ c by omega, X, e]
theorem W_slice_lS {T e size N : Nat} {z : Value} {a : Operand} {b o n c l : Nat} {k : IntKind} [hT : SlT P T e size N z] (V : ev f x = .slice (some ⟨b, o, none⟩) n c) (M : ev f a = .int k (l : Int)) (X : l ≤ n) (W : l < c)
  (h : AO P all Z K rest (upd f d (.slice (some ⟨b, o + l * size, none⟩) (n - l) (c - l))) ds w) : AO P all Z K (⟨some d, .slice T x (some a) none none, ty, pos, af, none⟩ :: rest) f ds w := by
 have e : adv c (l : Int).toNat size (some ⟨b, o, none⟩) = some ⟨b, o + l * size, none⟩ := by
  unfold adv;rw [Int.toNat_natCast, if_neg U];simp [Addr.add_lit]
 refine W_slice_l V M U U ?_;rw [e];exact h
theorem W_clear {T e size N : Nat} {z : Value} {b o n c : Nat} {D : TypeId} {L L0 : LV} [hT : SlT P T e size N z] [hz : Bb P e L0] (V : ev f x = .slice (some ⟨b, o, none⟩) n c) (G : 0 < n) (X : oneC L0) (S : Blk w b D L) (H : o + n * L0.length ≤ L.length)
  (h : ∀ w' a, a.length = n * L0.length → Put w w' b D (splice L o a) → AO P all Z K rest f ds w') : AO P all Z K (⟨none, .call ⟨.builtin .clear, #[x], #[T]⟩, ty, pos, af, none⟩ :: rest) f ds w := by
 obtain ⟨l, C, M⟩ := run_zero (P := P) (T := e) w;have F : (Builtin.zeroCells l.cells n).size = n * L0.length := by simp [Builtin.zeroCells, M]
 have A : ∀ v ∈ (Builtin.zeroCells l.cells n).toList, v.oneCell' = true := by
  intro v q;simp only [Builtin.zeroCells, M, Array.toList_map, List.mem_map] at q;obtain ⟨i, r, rfl⟩ := q;have s : i < n * L0.length := by simpa using r
  have B : 0 < L0.length := by
   rcases Nat.eq_zero_or_pos L0.length with h | h
   ·rw [h] at s; omega
   ·exact h
  have t : i % L0.length < L0.length := Nat.mod_lt _ B;rw [List.size_toArray, getElem!_pos _ _ (by simpa using t)];exact X _ O
 have j : w.heap[b]? = some (.cells L.toArray D (0, 0)) := S;have E := run_storeCells_at P b o D (Builtin.zeroCells l.cells n).toList 0 L.toArray w j (by simp only [Array.length_toList, F, List.size_toArray]; omega) A;simp only [Nat.add_zero] at E;refine Aq (v := .tuple #[]) (w' := w.setRow b (splice L o (Builtin.zeroCells l.cells n).toList).toArray) rfl ?_ (h _ _ (by simp [F]) ⟨⟨rfl, rfl, rfl, by simp [World.setRow], fun k _ p => setRow_other w b k _ (by simpa using p), fun _ => mark_put (g := b) (by simp [World.setRow]) (fun k p => setRow_other w b k _ p) (Unm.cells (setRow_heap w b _ _ D _ j)), Nat.le_refl _⟩, by simp [World.setRow], setRow_heap w b _ _ D _ j⟩);have u : ∃ m, n = m + 1 := ⟨n - 1, by omega⟩;obtain ⟨m, rfl⟩ := u;simp only [execOp, resolve, invoke, builtin, Sem.run_bind, Sem.run_pure, Result.andThen_ok];simp [V, Builtin.clear_, run_underlying hT.und, C];rw [E];simp [splice]
theorem W_eqlD {k : IntKind} {a b : Int} (V : ev f x = .int k a) (c : ev f y = .int k b) (h : AO P all Z K rest (upd f d (.bool (decide (a = b)))) ds w) : AO P all Z K (⟨some d, .binOp .eql xt x y yt, ty, pos, af, none⟩ :: rest) f ds w :=
 W_eql V c (fun e => by rw [decide_eq_true e] at h; exact h) (fun e => by rw [decide_eq_false e] at h; exact h)
theorem W_field {T i r S : Nat} {L : LV} {v : Value} [hT : Am P T i r S] [he : Cg P S] (V : ev f x = .agg L.toArray) (q : L[r]? = some v) (h : AO P all Z K rest (upd f d v) ds w) :
  AO P all Z K (⟨some d, .field T x i, ty, pos, af, none⟩ :: rest) f ds w := by
 refine Aq rfl ?_ h;obtain ⟨j, g, X, b, R, c, _⟩ := hT.out;obtain ⟨W, a, p⟩ := he.out
 have H : (isAgg S).run P w = .ok false w := by
  simp only [isAgg, Sem.run_bind, run_underlying a, Result.andThen_ok];cases W <;> simp_all [aggD]
 have e : (part S L.toArray r).run P w = .ok v w := by
  simp only [part, Sem.run_bind, H, Result.andThen_ok];simp [q]
 simp only [execOp, V, Instr.field, Sem.run_bind, run_underlying X, Result.andThen_ok, b, R, c, asAgg, Sem.run_pure, e]
theorem inR_u64 {n : Int} (X : 0 ≤ n) (W : n ≤ 18446744073709551615) : inR .u64 n := by
 unfold inR;constructor
 ·show IntKind.min .u64 ≤ n;have : IntKind.min .u64 = 0 := rfl;omega
 ·show n ≤ IntKind.max .u64;have : IntKind.max .u64 = 18446744073709551615 := by decide
  omega
theorem W_shrU {H : IntKind} {m n : Nat} (V : ev f x = .int .u64 (m : Int)) (a : ev f y = .int H (n : Int)) (G : n ≤ 60) (h : AO P all Z K rest (upd f d (.int .u64 ((m / 2 ^ n : Nat) : Int))) ds w) :
  AO P all Z K (⟨some d, .binOp .shr xt x y yt, ty, pos, af, none⟩ :: rest) f ds w := by
 have e : (m : Int).fdiv (2 ^ n) = ((m / 2 ^ n : Nat) : Int) := by
  rw [Int.fdiv_eq_ediv_of_nonneg _ (by exact Int.pow_nonneg U)]; simp
 exact Aq rfl (by simp only [execOp, V, a, eqGuard, binOp, Op.shift, if_neg (show ¬ (n : Int) < 0 by omega), show min (n : Int).toNat IntKind.u64.bits = n from by rw [Int.toNat_natCast]; exact Nat.min_eq_left (by show n ≤ 64; omega), e]; simp) h
end
end
def cpN (l : LF) : Nat → LF
 | 0 => []
 | p + 1 => cpN l p ++ if 0 < p ∧ BO (l.getD p Ae) (l.getD (p - 1) Ae) = 0 then [] else [l.getD p Ae]
theorem cpN_take {l : LF} : ∀ p, p ≤ l.length → (∀ i, 0 < i → i < p → BO (l.getD i Ae) (l.getD (i - 1) Ae) ≠ 0) → cpN l p = l.take p
 | 0, _, _ => by simp [cpN]
 | p + 1, hp, h => by
  rw [cpN, cpN_take p U fun i s F => h i s U, List.take_add_one, if_neg (fun u => h p u.1 U u.2)];have : l[p]? = some (l.getD p Ae) := by rw [List.getD_eq_getElem?_getD, List.getElem?_eq_getElem (by omega : p < l.length)]; rfl
  rw [this]; rfl
theorem inc_snoc {x : Fml} : ∀ {l : LF}, Inc (l ++ [x]) ↔ Inc l ∧ ∀ a ∈ l, BO a x < 0
 | [] => by simp [Inc]
 | c :: l => by
  rw [List.cons_append, Inc, Inc, inc_snoc (l := l)];constructor
  ·rintro ⟨X, W, R⟩
   exact ⟨⟨fun d C => X d (by simp [C]), W⟩, fun a H => by
    rcases List.mem_cons.1 H with rfl | H
    ·exact X x O
    ·exact R a H⟩
  ·rintro ⟨⟨X, W⟩, R⟩;refine ⟨fun d C => ?_, W, fun a H => R a (by simp [H])⟩;rcases List.mem_append.1 C with C | C
   ·exact X d C
   ·obtain rfl : d = x := by simpa using C
    exact R c O
theorem cpN_inc {l : LF} (D : Srt l) : ∀ p, p ≤ l.length → Inc (cpN l p) ∧ ∀ x, x ∈ cpN l p ↔ x ∈ l.take p
 | 0, _ => ⟨trivial, by simp [cpN]⟩
 | p + 1, hp => by
  obtain ⟨X, W⟩ := cpN_inc D p U;have y : p < l.length := by omega
  have z : ∀ i (F : i < l.length), l.getD i Ae = l[i] := fun i F => by rw [List.getD_eq_getElem?_getD, List.getElem?_eq_getElem F]; rfl
  have f : ∀ i j (F : i < l.length) (d : j < l.length), i < j → ¬ BO l[j] l[i] < 0 := fun i j F d o => (List.pairwise_iff_getElem.1 D) i j F d o;have c : l.take (p + 1) = l.take p ++ [l[p]] := by rw [List.take_add_one, List.getElem?_eq_getElem y]; rfl
  rw [cpN, z p y];by_cases T : 0 < p ∧ BO l[p] (l.getD (p - 1) Ae) = 0
  ·rw [if_pos T, List.append_nil];refine ⟨X, fun x => ?_⟩;rw [W, c, List.mem_append, List.mem_singleton];constructor
   ·exact .inl
   ·rintro (h | rfl)
    ·exact h
    ·rw [z (p - 1) U] at T;have := (CL _ _).1 T.2;rw [this];exact List.mem_take_iff_getElem.2 ⟨p - 1, by omega, rfl⟩
  ·rw [if_neg T];refine ⟨inc_snoc.2 ⟨X, fun a H => ?_⟩, fun x => ?_⟩
   ·obtain ⟨i, F, rfl⟩ := List.mem_take_iff_getElem.1 ((W a).1 H);have s : i < p := by omega
    have n : i < l.length := by omega
    have m : p - 1 < l.length := by omega
    have t : BO l[p] l[p - 1] ≠ 0 := fun e => T ⟨by omega, by rw [z (p - 1) m]; exact e⟩;have P := f (p - 1) p m y U;have M := cmpF_flip l[p] l[p - 1];have b : BO l[p - 1] l[p] < 0 := by omega
    by_cases k : i = p - 1
    ·subst k; exact b
    ·have r := f i (p - 1) n m U;have q := cmpF_flip l[p - 1] l[i];by_cases g : BO l[p - 1] l[i] = 0
     ·rw [← (CL _ _).1 g]; exact b
     ·exact DG _ _ _ U b
   ·rw [List.mem_append, W, c, List.mem_append]
theorem cpN_dist {l m : LF} (D : Srt l) (v : l.Perm m) : cpN l l.length = dist m := by
 obtain ⟨X, W⟩ := cpN_inc D l.length (Nat.le_refl _);refine inc_ext X (inc_dist m) fun x => ?_;rw [W, mem_dist, List.take_length, v.mem_iff]
end Go.Proofs.YtohodbnnhlddpaaGreatDoor
