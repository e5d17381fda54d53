/- TopGoalsGoOn, part 6 of 16: rules, lemmas, walks. Conditions: none. -/
import Derived.Test.YtohodbnnhlddpaaGreatDoorQZ5
namespace Go.Proofs.YtohodbnnhlddpaaGreatDoor
open Go.RowKit
set_option linter.unusedVariables false
section
variable {mk : Prop} [MK mk]
theorem recRet_S (w : World) (E Z T : Nat) : CallsDIn Fence.wide 0 Zp 102 ([] ++ [pt E, pt Z, pt T] : LV).toArray .returning w (fun e v w' => match e with | .returned _ => v = .returning ∧ Ext w w' | _ => False) := by
 refine callsD_rec (u1 := .returning) (v0 := .nilIface) (G := fun _ w' => Ext w w') (args := [pt E, pt Z, pt T]) Tryz.func102 rfl Tryz.ntmps102 O Dt Dk Dk (.inl ⟨rfl, rfl, rfl⟩) ?_;refine W_assert_nil (z := .agg #[iV 0, iV 0]) rfl Dk (go ?_);refine An (cs := [iV 0, iV 0]) rfl rfl Dn (AU rfl) (fun L V => go ?_);exact BF rfl V.E
theorem recPan_S (w : World) (E Z T : Nat) (m : LV) (j i : Value) (e q : Int) (f : Blk w E 54 m) (d : m.length = ([.slice none 0 0, .slice none 0 0] : LV).length) (a : Blk w Z 43 [j]) (c : Blk w T 3 [i]) (A : E ≠ Z) (F : E ≠ T) (M : Z ≠ T) :
  CallsDIn Fence.wide 0 Zp 102 ([] ++ [pt E, pt Z, pt T] : LV).toArray (.panicking [{ v := .iface 163 (.agg #[iV e, iV q]), recovered := false }]) w
   (fun s z w' => match s with | .returned _ => z = .panicking [{ v := .iface 163 (.agg #[.int .i64 e, .int .i64 q]), recovered := true }] ∧ (Keep [E, Z, T] w w' ∧ Blk w' E 54 [.slice none 0 0, .slice none 0 0] ∧ Blk w' Z 43 [.int .i64 e] ∧ Blk w' T 3 [.int .i64 q]) | _ => False) := by
 have P := f.lt;have R := a.lt;have S := c.lt
 refine callsD_rec (u1 := .panicking [{ v := .iface 163 (.agg #[iV e, iV q]), recovered := true }]) (v0 := .iface 163 (.agg #[iV e, iV q]))
  (G := fun _ w' => Keep [E, Z, T] w w' ∧ Blk w' E 54 [.slice none 0 0, .slice none 0 0] ∧ Blk w' Z 43 [iV e] ∧ Blk w' T 3 [iV q]) (args := [pt E, pt Z, pt T]) Tryz.func102 rfl Tryz.ntmps102 O Dt Dk Dk (.inr ⟨_, rfl, rfl, rfl⟩) ?_
 refine W_assert_yes rfl ?_;refine M_tuple rfl (W_extract rfl rfl (W_extract rfl rfl ?_));refine An (cs := [iV e, iV q]) rfl rfl Dn (AU rfl) (fun L V => ?_);have b := V.D;have Q := V.size;refine go ?_;refine AQ (fun u l => ?_);have X := l.size;have t : Blk u L.heap.size 54 [.slice none 0 0, .slice none 0 0] := l.D;replace b := b.E l.E O;have g : Ext w u := V.E.trans l.E;replace f := f.E g O;replace a := a.E g O;replace c := c.E g O;refine go ?_;refine AW (rd 0 5 (.alt 5 (.alt 6 (.alt 7 .done .stop) .stop) .stop)) Al Dk (fun K N I => ⟨fun W => W.cell? ⟨w.heap.size, 0, none⟩ = some (iV e) ∧ W.cell? ⟨w.heap.size, 1, none⟩ = some (iV q) ∧ Cells W L.heap.size 0 [.slice none 0 0, .slice none 0 0], ?_, ?_⟩)
 ·exact ⟨(b.E N O).cell rfl, (b.E N O).cell rfl, (t.E N O).cells⟩
 have H : ∀ W : World, (W.cell? ⟨w.heap.size, 0, none⟩ = some (iV e) ∧ W.cell? ⟨w.heap.size, 1, none⟩ = some (iV q) ∧ Cells W L.heap.size 0 [.slice none 0 0, .slice none 0 0]) → W.cell? ⟨w.heap.size, 0, none⟩ = some (iV e) := fun W h => h.1;have x : ∀ W : World, (W.cell? ⟨w.heap.size, 0, none⟩ = some (iV e) ∧ W.cell? ⟨w.heap.size, 1, none⟩ = some (iV q) ∧ Cells W L.heap.size 0 [.slice none 0 0, .slice none 0 0]) → W.cell? ⟨w.heap.size, 1, none⟩ = some (iV q) := fun W h => h.2.1;have y : ∀ W : World, (W.cell? ⟨w.heap.size, 0, none⟩ = some (iV e) ∧ W.cell? ⟨w.heap.size, 1, none⟩ = some (iV q) ∧ Cells W L.heap.size 0 [.slice none 0 0, .slice none 0 0]) → Cells W L.heap.size 0 [.slice none 0 0, .slice none 0 0] := fun W h => h.2.2;replace b := b.E N O;replace t := t.E N O;replace f := f.E N O;replace a := a.E N O;replace c := c.E N O;have k : Keep [E, Z, T] w K := (g.trans N).any;((apply D_R rfl rfl; (intro W B; refine AR rfl Dn (y W B) ?_; exact Z3)) <;> refine D_R rfl rfl (fun W B => AF rfl Z3) (D_R rfl rfl (fun W B => AM rfl (H W B) Z3) (D_R rfl rfl (fun W B => AF rfl Z3) (D_R rfl rfl (fun W B => AM rfl (x W B) Z3) ?_))))
 refine D_E rfl ?_;refine AE (cs := [.slice none 0 0, .slice none 0 0]) rfl rfl rfl (AU rfl) f (by rw [d]; simp) (fun W p => ?_);have o := p.D;rw [BN m [.slice none 0 0, .slice none 0 0] (by rw [d])] at o;replace a := a.E p.E Dl;replace c := c.E p.E Dl;replace b := b.E p.E Dl;replace t := t.E p.E Dl;replace k := k.trans p.E O;clear f p;have f := o;refine wNl (⟨b.cell rfl, b.cell rfl, t.cells⟩) ?_;refine D_E rfl ?_;refine AN rfl rfl rfl a O (fun C p => ?_);have n := p.D;replace f := f.E p.E Dl;replace c := c.E p.E Dl;replace b := b.E p.E Dl;replace t := t.E p.E Dl;replace k := k.trans p.E O;clear a p;refine wNl (⟨b.cell rfl, b.cell rfl, t.cells⟩) ?_;refine D_E rfl ?_;refine AN rfl rfl rfl c O (fun D p => ?_);have r := p.D;replace f := f.E p.E Dl;replace n := n.E p.E Dl;replace b := b.E p.E Dl;replace t := t.E p.E Dl;replace k := k.trans p.E O;refine wNl (⟨b.cell rfl, b.cell rfl, t.cells⟩) ?_;refine go ?_;exact BF rfl ⟨k, f, n, r⟩
def errOf {α : Type} (n : Nat) : Ans α → Except (Int × Nat) α
 | .ok y => .ok y.1
 | .error [] => .error (51, n)
 | .error (x :: _) => .error (50, x.loc)
def PRes (v : NT) (t : LU) (r : Except (Int × Nat) v.T) : Prop :=
 match lexM t with
 | .error e => r = .error e
 | .ok ts => ∃ a : Ans v.T, Run (whole v) ts a ∧ r = errOf t.length a
theorem PRes.det {v : NT} {t : LU} {r d : Except (Int × Nat) v.T} (h : PRes v t r) (c : PRes v t d) : r = d := by
 unfold PRes at h c;cases hm : lexM t with
 | error e => rw [hm] at h c; rw [h, c]
 | ok ts =>
  rw [hm] at h c;obtain ⟨a, X, rfl⟩ := h;obtain ⟨b, W, rfl⟩ := c;rw [X.det W]
def RunAns {α : Type} (R : Rp α) (b : LV → Value) (zero : LV) (P : Except (Int × Nat) α → Prop) (w w' : World) (v : Value) : Prop :=
 ∃ c e q, v = .tuple #[b c, iV e, iV q] ∧ Ext w w' ∧ ((∃ a, P (.ok a) ∧ e = 0 ∧ q = -1 ∧ R.fits (fresh w) w' c a) ∨ ∃ p : Nat, P (.error (e, p)) ∧ e ≠ 0 ∧ q = (p : Int) ∧ c = zero)
theorem errV_ne {α : Type} (n : Nat) (l : List Tok) : ∃ e p, errV n l = failP e p ∧ (errOf n (.error l : Ans α)) = .error (e, p) ∧ e ≠ 0 := by
 cases l with
 | nil => exact ⟨51, n, rfl, rfl, by decide⟩
 | cons x l => exact ⟨50, x.loc, rfl, rfl, by decide⟩
theorem lexF (w : World) (t : LU) (d : GV w) : Fn Zp 101 [AI t] w fun v w' => ∃ a c e q m, v = .tuple #[.slice a m.length c, iV e, iV q] ∧ Ext w w' ∧ Sl (fun b => w.heap.size ≤ b ∧ b < w'.heap.size) w' (.slice a m.length c) m.length (toksC m) ∧
  ((lexM t = .ok m ∧ e = 0 ∧ q = -1) ∨ ∃ p : Nat, lexM t = .error (e, p) ∧ e ≠ 0 ∧ q = (p : Int) ∧ m = []) := by
 refine (lex_ok w t d).mono ?_;rintro v w' ⟨tv, e, q, rfl, k, h⟩;unfold LexAns at h;cases hm : lexM t with
 | ok m =>
  rw [hm] at h;obtain ⟨rfl, rfl, f⟩ := h;have D := AV (ok := fun b => w.heap.size ≤ b ∧ b < w'.heap.size) f fun g z => Ab f z;obtain ⟨a, c, rfl, B⟩ := id D;exact ⟨a, c, 0, -1, m, rfl, k, D, .inl ⟨rfl, rfl, rfl⟩⟩
 | error r =>
  obtain ⟨X, p⟩ := r;rw [hm] at h;obtain ⟨rfl, rfl, rfl⟩ := h;exact ⟨none, 0, e, p, [], rfl, k, ⟨_, _, rfl, by simp, by omega, fun _ => rfl, .inl rfl⟩, .inr ⟨p, rfl, lexM_err hm, rfl, rfl⟩⟩
theorem res_cellA {P : Program} {f : Fr} {w : World} {T n b t : Nat} {L : LV} {l : List ResultVar} {k : LV → Prop} [hT : AggT P T n] (H : f t = .pointer (sm b)) (M : L.length = n) (a : Cells w b 0 L) (h : C4 P l f w fun r => k (.agg L.toArray :: r)) : C4 P (.cell t T :: l) f w k :=
 ⟨_, _, H, DY hT M a, h⟩
theorem run_S (w : World) (t : LU) (hG : GK w) (hI : ∀ E N, ItemR spcR aggV E N 64 (body .spec)) : Fn Zp 63 [AI t, .func (.func 64) #[] #[]] w (fun v w' => RunAns spcR aggV [.slice none 0 0, .slice none 0 0] (PRes .spec t) w w' v) := by
 have e9 := hG.gv.size;refine Cx Tryz.func63 rfl Tryz.ntmps63 nlr Dk (go ?_);refine AQ (fun Q n1 => ?_);refine AQ (fun g n2 => ?_);refine AQ (fun u n3 => ?_);have z1 := n1.size;have z2 := n2.size;have z3 := n3.size;have b1 : Blk u w.heap.size 54 [.slice none 0 0, .slice none 0 0] := (n1.D.E n2.E O).E n3.E O;have b2 : Blk u Q.heap.size 43 [iV 0] := n2.D.E n3.E O;have b3 : Blk u g.heap.size 3 [iV 0] := n3.D;have k3 : Ext w u := (n1.E.trans n2.E).trans n3.E;refine go ?_;refine AC (lexF u t (hG.gv.ext k3)) rfl ?_;rintro v w4 ⟨ta, tc, e, q, m, rfl, k4, hT, A⟩;have z4 := k4.size;have c1 := b1.E k4 O;have c2 := b2.E k4 O;have c3 := b3.E k4 O;refine go ?_;refine AN rfl rfl rfl c2 O (fun w5 H => ?_);refine AN rfl rfl rfl (c3.E H.E Dl) O (fun w6 I => ?_);have z5 := H.size;have z6 := I.size;have K : Blk w6 w.heap.size 54 [.slice none 0 0, .slice none 0 0] := (c1.E H.E Dl).E I.E Dl;have M : Blk w6 Q.heap.size 43 [iV e] := H.D.E I.E Dl;have P : Blk w6 g.heap.size 3 [iV q] := I.D;have k6 : Ext w w6 := ((k3.trans k4).E H.E Dl).E I.E Dl;refine go ?_;rcases A with ⟨A, rfl, rfl⟩ | ⟨p, A, he, rfl, rfl⟩
 ·obtain ⟨ht6, d9, e0⟩ := lexM_toks A;refine go ?_;refine W_defer (v1 := []) (v2 := [pt w.heap.size, pt Q.heap.size, pt g.heap.size]) (vs := []) rfl rfl (go ?_);refine AC (prefixes_ok w6) rfl ?_;rintro v w7 ⟨C, rfl, hmp, n, b7⟩;refine AC (infixes_ok w7) rfl ?_;rintro v s ⟨D, rfl, f0, k, b4⟩;have hpl := b7.lt;have d2 := b4.lt;have g0 := n.size;have zk8 := k.size;refine go ?_;refine Aj (L := [.slice ta m.length tc, iV (t.length : Int), .map (some C), .map (some D)]) rfl (fun d j => ?_);have z9 := j.size;have k9 : Ext w d := ((k6.trans n).trans k).trans j.E;refine go ?_;have c6 := ((((hT.E H.E (fun b S => by simp; omega)).E I.E (fun b S => by simp; omega)).ext n).ext k).ext j.E;have f1 := (((K.E n O).E k O).E j.E O);have f2 := (((M.E n O).E k O).E j.E O);have f3 := (((P.E n O).E k O).E j.E O);have hP : PSt d ⟨u.heap.size, s.heap.size, t.length, C, D⟩ m := ⟨⟨ta, tc, j.D, c6.mono fun b S => by have := S.1; have := S.2; exact ⟨by show u.heap.size ≤ b; omega, by show b < s.heap.size; omega⟩⟩, (b7.E k O).E j.E O, b4.E j.E O, ⟨by show C < s.heap.size; omega, d2⟩, e0, d9⟩;have B : PW d ⟨u.heap.size, s.heap.size, t.length, C, D⟩ m := ⟨hP, hG.ext k9, by show 10 ≤ s.heap.size; omega⟩;have b6 : ∀ {r : Ans (NT.T .spec)}, Run (whole .spec) m r → PRes .spec t (errOf t.length r) := fun {r} hr => by unfold PRes; rw [A]; exact ⟨r, hr, rfl⟩
  have b5 : ∀ (f : Fr) (V : World) (l : List Tok), Run (whole .spec) m (.error l) → Keep [s.heap.size, w.heap.size] d V → (∃ L1, Blk V w.heap.size 54 L1 ∧ L1.length = 2) → f 4 = pt w.heap.size → f 5 = pt Q.heap.size → f 6 = pt g.heap.size →
    DN Zp Tryz.f63 (fun v w' => RunAns spcR aggV [.slice none 0 0, .slice none 0 0] (PRes .spec t) w w' v) (fun _ _ => False) (.panic (errV t.length l)) f [{ target := .fn (.func 102) #[pt w.heap.size, pt Q.heap.size, pt g.heap.size], args := #[] }] V := by
   rintro f V l hr hk ⟨L1, g1, c5⟩ e4 e5 e6;obtain ⟨e, p, d0, d1, c9⟩ := errV_ne (α := NT.T .spec) t.length l;rw [d0];refine finD_pan_def (a := []) (c := [pt w.heap.size, pt Q.heap.size, pt g.heap.size]) (recPan_S V _ _ _ L1 _ _ e (p : Int) g1 c5 (f2.E hk Dl) (f3.E hk Dl) U U U) fun w11 c4 => ?_;obtain ⟨e1, X, a4, a5⟩ := c4;refine res_cellA e4 rfl X.cells (A9 e5 (a4.cell rfl) (A9 e6 (a5.cell rfl) ?_));have hp := b6 hr;rw [d1] at hp;exact ⟨[.slice none 0 0, .slice none 0 0], e, p, rfl, (k9.E hk Dl).E e1 Dl, .inr ⟨p, hp, c9, rfl, rfl⟩⟩
  refine go ?_;refine Cu (v1 := []) (v2 := []) (vs := [pt s.heap.size]) rfl (hI ⟨u.heap.size, s.heap.size, t.length, C, D⟩ m.length d m B (Nat.le_refl _)) rfl ?_ ?_;rotate_left
  ·rintro ch V ⟨y, l, r10, rfl⟩;refine go ?_;exact b5 _ V l (Run.callE r10) (y.mono O) ⟨_, f1.E y Dl, rfl⟩ rfl rfl rfl
  rintro v V ⟨y, a, e7, r10, e3, c, rfl, fit⟩;have o : c.length = 2 := Rp.len spcR fit;have hco := Rp.one spcR fit;have g1 := f1.E y Dl;have g2 := f2.E y Dl;have g3 := f3.E y Dl;have f6 := y.size;refine AE (cs := c) rfl rfl o hco g1 O (fun w11 i => ?_)
  have X : Blk w11 w.heap.size 54 c := by
   have := i.D;rw [BN [.slice none 0 0, .slice none 0 0] c (by rw [o]; rfl)] at this;exact this
  have a4 := g2.E i.E Dl;have a5 := g3.E i.E Dl;have fit' := Rp.E spcR fit i.E (fun b S => by simp [fresh] at S ⊢; omega);have b8 : Keep [s.heap.size, w.heap.size] d w11 := (y.mono O).trans (i.E.mono (Y := [s.heap.size, w.heap.size]) O) O;have f7 := i.size;have hE : w.heap.size < s.heap.size := by omega
  obtain ⟨⟨ta', tc', c7, d8⟩, d3, d4, d5, d6, d7⟩ := id e3;have c8 := c7.E i.E Dl;refine go ?_;cases e7 with
  | cons x l =>
   have hl : (x :: l).length = l.length + 1 := rfl;refine go ?_;have q11 : PSt w11 ⟨u.heap.size, s.heap.size, t.length, C, D⟩ (x :: l) := ⟨⟨ta', tc', c8, d8.E i.E (fun b S => by have : u.heap.size ≤ b := S.1; simp; omega)⟩, d3.E i.E Dl, d4.E i.E Dl, d5, d6, d7⟩;refine Ap (wrong_ok ⟨u.heap.size, s.heap.size, t.length, C, D⟩ w11 (x :: l) q11) rfl (R := fun _ _ => False) ?_ ?_
   ·rintro v g hh; exact hh.elim
   ·rintro ch g ⟨rfl, rfl⟩;refine go ?_;exact b5 _ g (x :: l) (Run.call r10 (Run.look (Run.fail _))) b8 ⟨_, X, o⟩ rfl rfl rfl
  | nil =>
   have hl : ([] : List Tok).length = 0 := rfl;refine go ?_;refine Bh rfl X o ?_;refine AE (cs := c) rfl rfl o hco X U (fun e8 F => ?_)
   have i1 : Blk e8 w.heap.size 54 c := by
    have := F.D;rw [BN c c rfl] at this;exact this
   refine AN rfl rfl rfl (a4.E F.E Dl) O (fun f4 G => ?_);refine AN rfl rfl rfl ((a5.E F.E Dl).E G.E Dl) O (fun a6 a0 => ?_);have f8 := F.size;have f9 := G.size;have j1 := (i1.E G.E Dl).E a0.E Dl;have j2 : Blk a6 Q.heap.size 43 [iV 0] := G.D.E a0.E Dl;have j3 : Blk a6 g.heap.size 3 [iV (-1)] := a0.D;have e2 : Ext w a6 := (((k9.E b8 Dl).E F.E O).E G.E Dl).E a0.E Dl;have fit14 := Rp.E spcR (Rp.E spcR (Rp.E spcR fit' F.E (fun b S => by simp [fresh] at S ⊢; omega)) G.E (fun b S => by simp [fresh] at S ⊢; omega)) a0.E (fun b S => by simp [fresh] at S ⊢; omega);refine go ?_;refine finD_ret_def (a := []) (c := [pt w.heap.size, pt Q.heap.size, pt g.heap.size]) (recRet_S _ _ _ _) fun f5 Z => ?_;refine res_cellA rfl o (j1.E Z O).cells (A9 rfl ((j2.E Z O).cell rfl) (A9 rfl ((j3.E Z O).cell rfl) ?_));have hp := b6 (Run.call r10 (Run.look (Run.ret _ _)));exact ⟨c, 0, -1, rfl, e2.trans Z, .inl ⟨a, hp, rfl, rfl, Rp.mono spcR (Rp.ext spcR fit14 Z) fun b S => by simp only [fresh] at S ⊢; omega⟩⟩
 ·refine go ?_;refine AW (rd 0 3 (.alt 3 (.alt 4 (.alt 5 .done .stop) .stop) .stop)) Al Dk (fun wd z ed => ⟨fun W => Cells W w.heap.size 0 [.slice none 0 0, .slice none 0 0] ∧ W.cell? ⟨Q.heap.size, 0, none⟩ = some (iV e) ∧ W.cell? ⟨g.heap.size, 0, none⟩ = some (iV (p : Int)), ?_, ?_⟩)
  ·exact ⟨(K.E z O).cells, (M.E z O).cell rfl, (P.E z O).cell rfl⟩
  have b9 : ∀ W : World, (Cells W w.heap.size 0 [.slice none 0 0, .slice none 0 0] ∧ W.cell? ⟨Q.heap.size, 0, none⟩ = some (iV e) ∧ W.cell? ⟨g.heap.size, 0, none⟩ = some (iV (p : Int))) → Cells W w.heap.size 0 [.slice none 0 0, .slice none 0 0] := fun W h => h.1;have c0 : ∀ W : World, (Cells W w.heap.size 0 [.slice none 0 0, .slice none 0 0] ∧ W.cell? ⟨Q.heap.size, 0, none⟩ = some (iV e) ∧ W.cell? ⟨g.heap.size, 0, none⟩ = some (iV (p : Int))) → W.cell? ⟨Q.heap.size, 0, none⟩ = some (iV e) := fun W h => h.2.1;have fc2 : ∀ W : World, (Cells W w.heap.size 0 [.slice none 0 0, .slice none 0 0] ∧ W.cell? ⟨Q.heap.size, 0, none⟩ = some (iV e) ∧ W.cell? ⟨g.heap.size, 0, none⟩ = some (iV (p : Int))) → W.cell? ⟨g.heap.size, 0, none⟩ = some (iV (p : Int)) := fun W h => h.2.2;replace K := K.E z O;replace M := M.E z O;replace P := P.E z O;((apply D_R rfl rfl; (intro W B; refine AR rfl Dn (b9 W B) ?_; exact Z3)) <;> refine D_R rfl rfl (fun W B => AM rfl (c0 W B) Z3) (D_R rfl rfl (fun W B => AM rfl (fc2 W B) Z3) ?_))
  refine D_E rfl ?_;refine AE (cs := [.slice none 0 0, .slice none 0 0]) rfl rfl rfl (AU rfl) K O (fun wa pa => ?_);have a1 : Blk wa w.heap.size 54 [.slice none 0 0, .slice none 0 0] := pa.D;have a2 := M.E pa.E Dl;have a3 := P.E pa.E Dl;refine wNl (⟨a1.cells, a2.cell rfl, a3.cell rfl⟩) ?_;refine D_E rfl ?_;refine AN rfl rfl rfl a2 O (fun wb pb => ?_);have a7 := a1.E pb.E Dl;have a8 : Blk wb Q.heap.size 43 [iV e] := pb.D;have a9 := a3.E pb.E Dl;refine wNl (⟨a7.cells, a8.cell rfl, a9.cell rfl⟩) ?_;refine D_E rfl ?_;refine AN rfl rfl rfl a9 O (fun wc pc => ?_);have b0 := a7.E pc.E Dl;have c2' := a8.E pc.E Dl;have c3' : Blk wc g.heap.size 3 [iV (p : Int)] := pc.D;refine wNl (⟨b0.cells, c2'.cell rfl, c3'.cell rfl⟩) ?_;refine go ?_;refine BA (res_cellA rfl rfl b0.cells (A9 rfl (c2'.cell rfl) (A9 rfl (c3'.cell rfl) ?_)));refine ⟨[.slice none 0 0, .slice none 0 0], e, p, rfl, (((k6.trans z).E pa.E O).E pb.E Dl).E pc.E Dl, .inr ⟨p, ?_, he, rfl, rfl⟩⟩;unfold PRes;rw [A]
theorem parse_S (w : World) (t : LU) (D : GK w) : Fn Zp 23 [AI t] w (fun v w' => RunAns spcR aggV [.slice none 0 0, .slice none 0 0] (PRes .spec t) w w' v) := by
 refine AG Tryz.func23 rfl Tryz.ntmps23 (go ?_);refine AQ (fun Q E => ?_);have k : Blk Q w.heap.size 54 [.slice none 0 0, .slice none 0 0] := E.D;have i := E.size;refine go ?_;refine AC (run_S Q t (D.ext E.E) spec_ok) rfl ?_;rintro v g ⟨c, e, q, rfl, l, B⟩
 have T : c.length = 2 ∧ oneC c := by
  rcases B with ⟨a, _, _, _, o⟩ | ⟨p, _, _, _, rfl⟩
  ·exact ⟨Rp.len spcR o, Rp.one spcR o⟩
  ·exact ⟨rfl, AU rfl⟩
 have d := k.E l O;refine go ?_;refine AE (cs := c) rfl rfl T.1 T.2 d O (fun u L => ?_)
 have f : Blk u w.heap.size 54 c := by
  have := L.D;rw [BN [.slice none 0 0, .slice none 0 0] c (by rw [T.1]; rfl)] at this;exact this
 refine go ?_;refine fin_retA2 rfl rfl T.1 f.cells ⟨c, e, q, rfl, (E.E.trans l).E L.E O, ?_⟩;rcases B with ⟨a, X, W, R, o⟩ | h
 ·exact .inl ⟨a, X, W, R, Rp.mono spcR (Rp.E spcR o L.E (fun b S => by simp [fresh] at S ⊢; omega)) (fun b S => by simp only [fresh] at S ⊢; omega)⟩
 ·exact .inr h
def parseE (v : NT) (t : LU) (n : Nat) : Option (Except (Int × Nat) v.T) := match lexM t with
 | .error e => some (.error e)
 | .ok ts => (evG (evN n) (whole v) ts).map (errOf t.length)
theorem PRes.ofE {v : NT} {t : LU} {n : Nat} {r : Except (Int × Nat) v.T} (h : parseE v t n = some r) : PRes v t r := by
 unfold parseE at h;unfold PRes;cases hm : lexM t with
 | error e => rw [hm] at h; exact (Option.some.inj h).symm
 | ok ts =>
  rw [hm] at h;obtain ⟨a, X, W⟩ := Option.map_eq_some_iff.1 h;exact ⟨a, ⟨n, X⟩, W.symm⟩
theorem parseS_is (w : World) (t : LU) (a : Spc) (D : GK w) (h : PRes .spec t (.ok a)) : Fn Zp 23 [AI t] w (fun v w' => ∃ c, v = .tuple #[.agg c.toArray, iV 0, iV (-1)] ∧ Ext w w' ∧ spcR.fits AZ w' c a) := by
 refine (parse_S w t D).mono ?_;rintro v w' ⟨c, e, q, rfl, k, u | u⟩
 ·obtain ⟨b, X, rfl, rfl, f⟩ := u;obtain rfl : b = a := by have := X.det h; cases this; rfl
  exact ⟨c, rfl, k, Rp.mono spcR f fun _ _ => trivial⟩
 ·obtain ⟨p, X, _⟩ := u;have := X.det h;cases this
def reqW : Rqm := ⟨[112], [97], 2, ⟨12, [], 0, 0, [⟨7, [], 0, 0, [isF [114] 1, ⟨11, [], 0, 0, [isF [103] 1]⟩]⟩]⟩⟩
def spcW : Spc := ⟨[⟨[114], true, 2⟩, ⟨[103], false, 2⟩], [reqW]⟩
theorem parse_W : PRes .spec [105, 110, 112, 117, 116, 32, 114, 59, 32, 111, 117, 116, 112, 117, 116, 32, 103, 59, 32, 112, 97, 114, 116, 32, 112, 32, 123, 32, 103, 117, 97, 114, 97, 110, 116, 101, 101, 32, 97, 58, 32, 71, 32, 40, 114, 32, 45, 62, 32, 70, 32, 103, 41, 59, 32, 125] (.ok spcW) := PRes.ofE (n := 60) Dk
abbrev Wd := Nat → LU → Int
def yestS (v : Int) (p : Nat → Prop) : Nat → Prop
 | 0 => v = 1
 | t + 1 => p t
def BK (v : Int) (p q : Nat → Prop) : Nat → Prop
 | 0 => q 0 ∨ p 0 ∧ v = 1
 | t + 1 => q (t + 1) ∨ p (t + 1) ∧ BK v p q t
def DJ (v : Int) (p q : Nat → Prop) : Nat → Prop
 | 0 => q 0 ∧ (p 0 ∨ v = 1)
 | t + 1 => q (t + 1) ∧ (p (t + 1) ∨ DJ v p q t)
def CT (p q : Nat → Prop) (t : Nat) : Prop := ∃ k, t ≤ k ∧ q k ∧ ∀ j, t ≤ j → j < k → p j
def relS (p q : Nat → Prop) (t : Nat) : Prop := ∀ k, t ≤ k → q k ∨ ∃ j, t ≤ j ∧ j < k ∧ p j
def opP (s : Wd) (N : Int) (nm : LU) (v b : Int) (ps : List (Nat → Prop)) (p q : Nat → Prop) : Nat → Prop :=
 if N = 1 then fun _ => True
 else if N = 3 then fun t => s t nm = v
 else if N = 4 then fun t => ¬ p t
 else if N = 5 then fun t => ∀ a ∈ ps, a t
 else if N = 6 then fun t => ∃ a ∈ ps, a t
 else if N = 7 then fun t => p t → q t
 else if N = 8 then fun t => p (t + 1)
 else if N = 9 then CT p q
 else if N = 10 then relS p q
 else if N = 11 then CT (fun _ => True) p
 else if N = 12 then relS (fun _ => False) p
 else if N = 13 then fun t => ∃ k : Nat, (k : Int) ≤ b ∧ p (t + k)
 else if N = 14 then fun t => ∀ k : Nat, (k : Int) ≤ b → p (t + k)
 else if N = 15 then yestS v p
 else if N = 16 then BK v p q
 else if N = 17 then DJ v p q
 else if N = 18 then BK 0 (fun _ => True) p
 else if N = 19 then DJ 1 (fun _ => False) p
 else fun _ => False
def opS (s : Wd) (N : Int) (nm : LU) (v b : Int) (ps : List (Nat → Prop)) : Nat → Prop := opP s N nm v b ps (ps.getD 0 fun _ => False) (ps.getD 1 fun _ => False)
mutual
def sem (s : Wd) : Fml → Nat → Prop
 | .mk op nm v b args => opS s op nm v b (semL s args)
def semL (s : Wd) : LF → List (Nat → Prop)
 | [] => []
 | a :: l => sem s a :: semL s l
end
theorem Cm (s : Wd) : ∀ l : LF, semL s l = l.map (sem s)
 | [] => rfl
 | a :: l => by rw [semL, Cm s l]; rfl
theorem sem_eq (s : Wd) (f : Fml) : sem s f = opS s f.op f.name f.val f.bound (f.args.map (sem s)) := by
 obtain ⟨N, o, v, b, l⟩ := f;rw [sem, Cm]; rfl
def Per {α : Type} (m n : Nat) (p : Nat → α) : Prop := ∀ t, m ≤ t → p (t + n) = p t
theorem Per.mono {α : Type} {m l n : Nat} {p : Nat → α} (h : Per m n p) (A : m ≤ l) : Per l n p := fun t S => h t U
theorem Per.mul {α : Type} {m n : Nat} {p : Nat → α} (h : Per m n p) : ∀ k t, m ≤ t → p (t + k * n) = p t
 | 0, t, _ => by simp
 | k + 1, t, ht => by rw [Nat.succ_mul, ← Nat.add_assoc, h _ U, h.mul k t ht]
theorem until_step (p q : Nat → Prop) (t : Nat) : CT p q t ↔ q t ∨ p t ∧ CT p q (t + 1) := by
 constructor
 ·rintro ⟨k, X, W, R⟩;by_cases e : k = t
  ·subst e; exact .inl W
  ·exact .inr ⟨R t (Nat.le_refl _) U, k, by omega, W, fun j a b => R j U b⟩
 ·rintro (h | ⟨h, k, X, W, R⟩)
  ·exact ⟨t, Nat.le_refl _, h, fun j a b => by omega⟩
  ·refine ⟨k, by omega, W, fun j a b => ?_⟩;by_cases e : j = t
   ·subst e; exact h
   ·exact R j U b
theorem rel_not (p q : Nat → Prop) (t : Nat) : relS p q t ↔ ¬ CT (fun i => ¬ p i) (fun i => ¬ q i) t := by
 unfold relS CT;constructor
 ·rintro h ⟨k, X, W, R⟩;rcases h k X with h | ⟨j, a, b, c⟩
  ·exact W h
  ·exact R j a b c
 ·intro h k P;refine Classical.byContradiction fun G => h ⟨k, P, fun H => G (.inl H), fun j a b v => G (.inr ⟨j, a, b, v⟩)⟩
theorem rel_step (p q : Nat → Prop) (t : Nat) : relS p q t ↔ q t ∧ (p t ∨ relS p q (t + 1)) := by
 rw [rel_not, until_step, rel_not];constructor
 ·intro h;refine ⟨Classical.byContradiction fun H => h (.inl H), Classical.byContradiction fun G => h (.inr ⟨fun v => G (.inl v), Classical.byContradiction fun r => G (.inr r)⟩)⟩
 ·rintro ⟨H, h⟩ (X | ⟨X, W⟩)
  ·exact X H
  ·rcases h with h | h
   ·exact X h
   ·exact h W
theorem until_per {p q : Nat → Prop} {m n : Nat} (v : Per m n p) (H : Per m n q) : Per m n (CT p q) := by
 intro t S;refine propext ⟨?_, ?_⟩
 ·rintro ⟨k, X, W, R⟩;refine ⟨k - n, by omega, ?_, fun j a b => ?_⟩
  ·have := H (k - n) U;rw [← this, show k - n + n = k by omega]; exact W
  ·have := v j U;rw [← this]; exact R _ U U
 ·rintro ⟨k, X, W, R⟩;refine ⟨k + n, by omega, ?_, fun j a b => ?_⟩
  ·rw [H k U]; exact W
  ·have := v (j - n) U;rw [show j - n + n = j by omega] at this;rw [this]; exact R _ U U
theorem not_per {p : Nat → Prop} {m n : Nat} (v : Per m n p) : Per m n (fun i => ¬ p i) := fun t S => by show (¬ p (t + n)) = _; rw [v t S]
theorem rel_per {p q : Nat → Prop} {m n : Nat} (v : Per m n p) (H : Per m n q) : Per m n (relS p q) := by
 intro t S;have := until_per (not_per v) (not_per H) t S;refine propext ?_;rw [rel_not, rel_not, this]
theorem yest_per {p : Nat → Prop} {m n : Nat} (v : Int) (G : 1 ≤ n) (a : Per m n p) : Per (m + n) n (yestS v p) := by
 intro t S;obtain ⟨u, rfl⟩ : ∃ u, t = u + 1 := ⟨t - 1, by omega⟩;rw [show u + 1 + n = (u + n) + 1 by omega];show p (u + n) = p u;exact a u U
theorem since_run (v : Int) (p q : Nat → Prop) (t : Nat) : ∀ n, ∃ a b : Prop, BK v p q (t + n) ↔ a ∨ b ∧ BK v p q t
 | 0 => ⟨False, True, by simp⟩
 | n + 1 => by
  obtain ⟨a, b, h⟩ := since_run v p q t n;refine ⟨q (t + n + 1) ∨ p (t + n + 1) ∧ a, p (t + n + 1) ∧ b, ?_⟩;show (q (t + n + 1) ∨ p (t + n + 1) ∧ BK v p q (t + n)) ↔ _;rw [h];constructor
  ·rintro (h | ⟨h, W | ⟨W, R⟩⟩)
   ·exact .inl (.inl h)
   ·exact .inl (.inr ⟨h, W⟩)
   ·exact .inr ⟨⟨h, W⟩, R⟩
  ·rintro ((h | ⟨h, W⟩) | ⟨⟨h, W⟩, R⟩)
   ·exact .inl h
   ·exact .inr ⟨h, .inl W⟩
   ·exact .inr ⟨h, .inr ⟨W, R⟩⟩
theorem since_from (v : Int) {p q : Nat → Prop} {m n : Nat} (c : Per m n p) (H : Per m n q) {t u : Nat} (S : m ≤ t) (r : ∃ k, u = t + k * n) :
  ∀ d, ∃ a b : Prop, (BK v p q (t + d) ↔ a ∨ b ∧ BK v p q t) ∧ (BK v p q (u + d) ↔ a ∨ b ∧ BK v p q u)
 | 0 => ⟨False, True, by simp, by simp⟩
 | d + 1 => by
  obtain ⟨a, b, h, g⟩ := since_from v c H S r d;obtain ⟨k, rfl⟩ := r
  have f : q (t + k * n + d + 1) = q (t + d + 1) := by
   have := H.mul k (t + d + 1) U;rw [← this]; congr 1; omega
  have e : p (t + k * n + d + 1) = p (t + d + 1) := by
   have := c.mul k (t + d + 1) U;rw [← this]; congr 1; omega
  refine ⟨q (t + d + 1) ∨ p (t + d + 1) ∧ a, p (t + d + 1) ∧ b, ?_, ?_⟩
  ·show (q (t + d + 1) ∨ p (t + d + 1) ∧ BK v p q (t + d)) ↔ _;rw [h];constructor
   ·rintro (h | ⟨h, W | ⟨W, R⟩⟩)
    ·exact .inl (.inl h)
    ·exact .inl (.inr ⟨h, W⟩)
    ·exact .inr ⟨⟨h, W⟩, R⟩
   ·rintro ((h | ⟨h, W⟩) | ⟨⟨h, W⟩, R⟩)
    ·exact .inl h
    ·exact .inr ⟨h, .inl W⟩
    ·exact .inr ⟨h, .inr ⟨W, R⟩⟩
  ·show (q (t + k * n + d + 1) ∨ p (t + k * n + d + 1) ∧ BK v p q (t + k * n + d)) ↔ _;rw [g, f, e];constructor
   ·rintro (h | ⟨h, W | ⟨W, R⟩⟩)
    ·exact .inl (.inl h)
    ·exact .inl (.inr ⟨h, W⟩)
    ·exact .inr ⟨⟨h, W⟩, R⟩
   ·rintro ((h | ⟨h, W⟩) | ⟨⟨h, W⟩, R⟩)
    ·exact .inl h
    ·exact .inr ⟨h, .inl W⟩
    ·exact .inr ⟨h, .inr ⟨W, R⟩⟩
theorem since_per {p q : Nat → Prop} {m n : Nat} (v : Int) (c : Per m n p) (H : Per m n q) : Per (m + n) n (BK v p q) := by
 have B : BK v p q (m + n + n) ↔ BK v p q (m + n) := by
  obtain ⟨a, b, X, W⟩ := since_from v c H (t := m) (u := m + n) (Nat.le_refl _) ⟨1, by omega⟩ n;rw [W, X];constructor
  ·rintro (h | ⟨h, R | ⟨R, w⟩⟩)
   ·exact .inl h
   ·exact .inl R
   ·exact .inr ⟨R, w⟩
  ·rintro (h | ⟨h, R⟩)
   ·exact .inl h
   ·exact .inr ⟨h, .inr ⟨h, R⟩⟩
 intro t S;obtain ⟨d, rfl⟩ : ∃ d, t = m + n + d := ⟨t - (m + n), by omega⟩;obtain ⟨a, b, X, W⟩ := since_from v c H (t := m + n) (u := m + n + n) U ⟨1, by omega⟩ d;rw [show m + n + d + n = m + n + n + d by omega];exact propext (by rw [W, X, B])
theorem trig_not (v : Int) (p q : Nat → Prop) : ∀ t, DJ v p q t ↔ ¬ BK (if v = 1 then 0 else 1) (fun i => ¬ p i) (fun i => ¬ q i) t
 | 0 => by
  show (q 0 ∧ (p 0 ∨ v = 1)) ↔ ¬ (¬ q 0 ∨ ¬ p 0 ∧ (if v = 1 then (0 : Int) else 1) = 1);have e : ((if v = 1 then (0 : Int) else 1) = 1) ↔ ¬ v = 1 := by split <;> simp_all
  rw [e];constructor
  ·rintro ⟨h, W⟩ (R | ⟨R, w⟩)
   ·exact R h
   ·exact W.elim R w
  ·intro h;exact ⟨Classical.byContradiction fun H => h (.inl H), Classical.byContradiction fun G => h (.inr ⟨fun a => G (.inl a), fun b => G (.inr b)⟩)⟩
 | t + 1 => by
  have o := trig_not v p q t;show (q (t + 1) ∧ (p (t + 1) ∨ DJ v p q t)) ↔ ¬ (¬ q (t + 1) ∨ ¬ p (t + 1) ∧ BK _ _ _ t);rw [o];constructor
  ·rintro ⟨h, W⟩ (R | ⟨R, w⟩)
   ·exact R h
   ·rcases W with W | W
    ·exact R W
    ·exact W w
  ·intro h;exact ⟨Classical.byContradiction fun H => h (.inl H), Classical.byContradiction fun G => h (.inr ⟨fun a => G (.inl a), Classical.byContradiction fun D => G (.inr D)⟩)⟩
theorem trig_per {p q : Nat → Prop} {m n : Nat} (v : Int) (a : Per m n p) (H : Per m n q) : Per (m + n) n (DJ v p q) := by
 intro t S;have := since_per (if v = 1 then 0 else 1) (not_per a) (not_per H) t S;refine propext ?_;rw [trig_not, trig_not, this]
mutual
def DB : Fml → Nat
 | .mk op _ _ _ args => nestL args + if op = 15 ∨ op = 16 ∨ op = 17 ∨ op = 18 ∨ op = 19 then 1 else 0
def nestL : LF → Nat
 | [] => 0
 | a :: l => max (DB a) (nestL l)
end
theorem nestL_mem : ∀ {l : LF} {a : Fml}, a ∈ l → DB a ≤ nestL l
 | [], _, h => by cases h
 | c :: l, a, h => by
  rw [nestL];rcases List.mem_cons.1 h with rfl | h
  ·omega
  ·have := nestL_mem h; omega
theorem getD_per {ps : List (Nat → Prop)} {m n : Nat} (h : ∀ a ∈ ps, Per m n a) (i : Nat) : Per m n (ps.getD i fun _ => False) := by
 by_cases F : i < ps.length
 ·rw [List.getD_eq_getElem?_getD, List.getElem?_eq_getElem F];exact h _ (List.getElem_mem F)
 ·rw [List.getD_eq_getElem?_getD, List.getElem?_eq_none U];exact fun t _ => rfl
theorem CU {c : Prop} [Decidable c] {m n : Nat} {p q : Nat → Prop} (X : c → Per m n p) (W : ¬ c → Per m n q) : Per m n (if c then p else q) := by
 by_cases h : c
 ·rw [if_pos h]; exact X h
 ·rw [if_neg h]; exact W h
theorem sem_per {s : Wd} {m n : Nat} (i : 1 ≤ n) (D : Per m n s) : ∀ f : Fml, Per (m + DB f * n) n (sem s f)
 | .mk op nm v b args => by
  have G : ∀ a ∈ semL s args, Per (m + nestL args * n) n a := by
   intro a H;rw [Cm] at H;obtain ⟨f, I, rfl⟩ := List.mem_map.1 H;exact (sem_per i D f).mono (by have := Nat.mul_le_mul_right n (nestL_mem I); omega)
  rw [sem];generalize V : nestL args = k at G;have d := getD_per G 0;have r := getD_per G 1
  have P : m + k * n ≤ m + DB (.mk op nm v b args) * n := by
   rw [DB, V]; have := Nat.mul_le_mul_right n (Nat.le_add_right k (if op = 15 ∨ op = 16 ∨ op = 17 ∨ op = 18 ∨ op = 19 then 1 else 0)); omega
  have C : ∀ c : Prop, Per (m + k * n) n fun _ => c := fun c t _ => rfl
  have g : (op = 15 ∨ op = 16 ∨ op = 17 ∨ op = 18 ∨ op = 19) → m + DB (.mk op nm v b args) * n = m + k * n + n := by
   intro h; rw [DB, V, if_pos h, Nat.succ_mul]; omega
  unfold opS opP;generalize j : (semL s args).getD 0 (fun _ => False) = p at d;generalize l : (semL s args).getD 1 (fun _ => False) = q at r;refine CU (fun e => ?_) (fun _ => ?_)
  ·exact fun _ _ => rfl
  refine CU (fun e => ?_) (fun _ => ?_)
  ·exact fun t S => by show (s (t + n) nm = v) = _; rw [D t U]
  refine CU (fun e => ?_) (fun _ => ?_)
  ·exact (not_per d).mono P
  refine CU (fun e => ?_) (fun _ => ?_)
  ·refine Per.mono (fun t S => ?_) P;refine propext ⟨fun h a H => ?_, fun h a H => ?_⟩
   ·rw [← G a H t S]; exact h a H
   ·rw [G a H t S]; exact h a H
  refine CU (fun e => ?_) (fun _ => ?_)
  ·refine Per.mono (fun t S => ?_) P;refine propext ⟨fun ⟨a, H, h⟩ => ⟨a, H, ?_⟩, fun ⟨a, H, h⟩ => ⟨a, H, ?_⟩⟩
   ·rw [← G a H t S]; exact h
   ·rw [G a H t S]; exact h
  refine CU (fun e => ?_) (fun _ => ?_)
  ·exact Per.mono (fun t S => by show (_ → _) = (_ → _); rw [d t S, r t S]) P
  refine CU (fun e => ?_) (fun _ => ?_)
  ·refine Per.mono (fun t S => ?_) P;show p (t + n + 1) = p (t + 1);rw [show t + n + 1 = t + 1 + n by omega];exact d (t + 1) U
  refine CU (fun e => ?_) (fun _ => ?_)
  ·exact (until_per d r).mono P
  refine CU (fun e => ?_) (fun _ => ?_)
  ·exact (rel_per d r).mono P
  refine CU (fun e => ?_) (fun _ => ?_)
  ·exact (until_per (C True) d).mono P
  refine CU (fun e => ?_) (fun _ => ?_)
  ·exact (rel_per (C False) d).mono P
  refine CU (fun e => ?_) (fun _ => ?_)
  ·refine Per.mono (fun t S => ?_) P;refine propext ⟨fun ⟨k, X, h2⟩ => ⟨k, X, ?_⟩, fun ⟨k, X, h2⟩ => ⟨k, X, ?_⟩⟩
   ·rw [← d (t + k) U, show t + k + n = t + n + k by omega]; exact h2
   ·rw [show t + n + k = t + k + n by omega, d (t + k) U]; exact h2
  refine CU (fun e => ?_) (fun _ => ?_)
  ·refine Per.mono (fun t S => ?_) P;refine propext ⟨fun h k X => ?_, fun h k X => ?_⟩
   ·rw [← d (t + k) U, show t + k + n = t + n + k by omega]; exact h k X
   ·rw [show t + n + k = t + k + n by omega, d (t + k) U]; exact h k X
  refine CU (fun e => ?_) (fun _ => ?_)
  ·rw [g (by simp [e])]; exact yest_per v i d
  refine CU (fun e => ?_) (fun _ => ?_)
  ·rw [g (by simp [e])]; exact since_per v d r
  refine CU (fun e => ?_) (fun _ => ?_)
  ·rw [g (by simp [e])]; exact trig_per v d r
  refine CU (fun e => ?_) (fun _ => ?_)
  ·rw [g (by simp [e])]; exact since_per 0 (C True) d
  refine CU (fun e => ?_) (fun _ => ?_)
  ·rw [g (by simp [e])]; exact trig_per 1 (C False) d
  ·exact fun _ _ => rfl
abbrev Vl := LU → Int
def tailW (s : Wd) : Wd := fun t => s (t + 1)
def futB (N : Int) : Bool := decide (8 ≤ N) && decide (N ≤ 14)
def pstB (N : Int) : Bool := decide (15 ≤ N) && decide (N ≤ 19)
def looseO (N : Int) : Bool := (decide (1 ≤ N) && decide (N ≤ 6)) || (decide (8 ≤ N) && decide (N ≤ 10)) || (decide (15 ≤ N) && decide (N ≤ 17))
def Ar (N : Int) (n : Nat) : Bool :=
 if N = 1 ∨ N = 2 ∨ N = 3 then decide (n = 0)
 else if N = 5 ∨ N = 6 then decide (2 ≤ n)
 else if N = 7 ∨ N = 9 ∨ N = 10 ∨ N = 16 ∨ N = 17 then decide (n = 2)
 else decide (n = 1)
def Bp (N : Int) (nm : LU) (v b : Int) (n : Nat) : Bool :=
 decide (1 ≤ N) && decide (N ≤ 19) && Ar N n && decide (0 ≤ v) && decide (v ≤ if N = 3 then 3 else if N = 15 ∨ N = 16 ∨ N = 17 then 1 else 0) && decide (0 ≤ b) && decide (b ≤ if N = 13 ∨ N = 14 then 9 else 0) && (if N = 3 then CJ nm else nm.isEmpty)
mutual
def BC : Bool → Fml → Bool
 | i, .mk op nm v b args => looseO op && Bp op nm v b args.length && !(i && futB op) && (if op = 4 then (match args with | a :: _ => decide (a.op = 3) | [] => false) else true) && bareL (i || pstB op) args
def bareL : Bool → LF → Bool
 | _, [] => true
 | i, a :: l => BC i a && bareL i l
end
mutual
def Bs : Fml → Bool
 | .mk op _ _ _ args => !(decide (op = 8) || decide (op = 9) || decide (op = 10)) && pastL args
def pastL : LF → Bool
 | [] => true
 | a :: l => Bs a && pastL l
end
theorem DK : ∀ {l : LF} {i : Bool} {a : Fml}, bareL i l = true → a ∈ l → BC i a = true
 | [], _, _, _, h => by cases h
 | c :: l, i, a, h, H => by
  simp only [bareL, Bool.and_eq_true] at h;rcases List.mem_cons.1 H with rfl | H
  ·exact h.1
  ·exact DK h.2 H
theorem pastL_mem : ∀ {l : LF} {a : Fml}, pastL l = true → a ∈ l → Bs a = true
 | [], _, _, h => by cases h
 | c :: l, a, h, H => by
  simp only [pastL, Bool.and_eq_true] at h;rcases List.mem_cons.1 H with rfl | H
  ·exact h.1
  ·exact pastL_mem h.2 H
theorem pastL_of : ∀ {l : LF}, (∀ a ∈ l, Bs a = true) → pastL l = true
 | [], _ => rfl
 | c :: l, h => by
  simp only [pastL, Bool.and_eq_true];exact ⟨h c O, pastL_of fun a H => h a (by simp [H])⟩
theorem DP : ∀ f : Fml, BC true f = true → Bs f = true
 | .mk op nm v b args, h => by
  simp only [BC, Bool.and_eq_true, Bool.true_and, Bool.true_or, Bool.not_eq_true'] at h;have M := h.2;have I := h.1.1.2;simp only [Bs, Bool.and_eq_true, Bool.not_eq_true', Bool.or_eq_false_iff, decide_eq_false_iff_not];refine ⟨?_, pastL_of fun a H => DP a (DK M H)⟩;simp only [futB, Bool.and_eq_false_iff, decide_eq_false_iff_not] at I;omega
theorem Bj {N : Int} (h : looseO N = true) : N = 1 ∨ N = 2 ∨ N = 3 ∨ N = 4 ∨ N = 5 ∨ N = 6 ∨ N = 8 ∨ N = 9 ∨ N = 10 ∨ N = 15 ∨ N = 16 ∨ N = 17 := by
 simp only [looseO, Bool.or_eq_true, Bool.and_eq_true, decide_eq_true_eq] at h;omega
def nowOp (x : Vl) (N : Int) (nm : LU) (v : Int) (m : Bool) (ps : List Bool) : Bool :=
 if N = 1 then true
 else if N = 3 then decide (x nm = v)
 else if N = 4 then !(ps.getD 0 false)
 else if N = 5 then ps.all id
 else if N = 6 then ps.any id
 else if N = 15 then m
 else if N = 16 then ps.getD 1 false || (m && ps.getD 0 false)
 else if N = 17 then ps.getD 1 false && (m || ps.getD 0 false)
 else false
mutual
def nowG (x : Vl) (says : Fml → Bool) : Fml → Bool
 | .mk op nm v b args => nowOp x op nm v (says (.mk op nm v b args)) (nowGL x says args)
def nowGL (x : Vl) (says : Fml → Bool) : LF → List Bool
 | [] => []
 | a :: l => nowG x says a :: nowGL x says l
end
theorem nowGL_eq (x : Vl) (j : Fml → Bool) : ∀ l, nowGL x j l = l.map (nowG x j)
 | [] => rfl
 | a :: l => by rw [nowGL, nowGL_eq x j l]; rfl
def saysV (f : Fml) : Bool := decide (f.val = 1)
def Br (x : Vl) : Fml → Bool := nowG x saysV
theorem nowM_eq (x : Vl) (N : Int) (nm : LU) (v b : Int) (args : LF) : Br x (.mk N nm v b args) = nowOp x N nm v (decide (v = 1)) (args.map (Br x)) := by
 unfold Br;rw [nowG, nowGL_eq]; rfl
theorem CZ {l : LF} (h : l.length = 2) : ∃ a c, l = [a, c] := by
 match l, h with
 | [a, c], _ => exact ⟨a, c, rfl⟩
theorem C7 {l : LF} (h : l.length = 1) : ∃ a, l = [a] := by
 match l, h with
 | [a], _ => exact ⟨a, rfl⟩
theorem Bg {N v b : Int} {nm : LU} {n : Nat} (h : Bp N nm v b n = true) : Ar N n = true := by
 simp only [Bp, Bool.and_eq_true] at h;exact h.1.1.1.1.1.2
theorem now_sem (s : Wd) : ∀ (f : Fml) (i : Bool), BC i f = true → Bs f = true → (Br (s 0) f = true ↔ sem s f 0)
 | .mk op nm v b args, i, hb, hp => by
  simp only [BC, Bool.and_eq_true] at hb;simp only [Bs, Bool.and_eq_true] at hp;obtain ⟨⟨⟨⟨X, W⟩, R⟩, w⟩, P⟩ := hb;have o : ∀ a ∈ args, (Br (s 0) a = true ↔ sem s a 0) := fun a H => now_sem s a _ (DK P H) (pastL_mem hp.2 H)
  have G : op ≠ 8 ∧ op ≠ 9 ∧ op ≠ 10 := by
   have := hp.1;simp only [Bool.not_eq_true', Bool.or_eq_false_iff, decide_eq_false_iff_not] at this;omega
  have H := Bg W;rw [nowM_eq, sem, Cm];rcases Bj X with rfl | rfl | rfl | rfl | rfl | rfl | rfl | rfl | rfl | rfl | rfl | rfl
  ·simp [nowOp, opS, opP]
  ·simp [nowOp, opS, opP]
  ·simp [nowOp, opS, opP]
  ·obtain ⟨a, rfl⟩ := C7 Ds;have := o a O;simp [nowOp, opS, opP, ← this]
  ·show (args.map (Br (s 0))).all id = true ↔ ∀ a ∈ args.map (sem s), a 0;simp only [List.all_eq_true, List.mem_map, forall_exists_index, and_imp, forall_apply_eq_imp_iff₂, id];exact ⟨fun h a H => (o a H).1 (h a H), fun h a H => (o a H).2 (h a H)⟩
  ·show (args.map (Br (s 0))).any id = true ↔ ∃ a ∈ args.map (sem s), a 0;simp only [List.any_eq_true, List.mem_map, id];constructor
   ·rintro ⟨_, ⟨a, H, rfl⟩, h⟩;exact ⟨_, ⟨a, H, rfl⟩, (o a H).1 h⟩
   ·rintro ⟨_, ⟨a, H, rfl⟩, h⟩;exact ⟨_, ⟨a, H, rfl⟩, (o a H).2 h⟩
  ·exact absurd rfl G.1
  ·exact absurd rfl G.2.1
  ·exact absurd rfl G.2.2
  ·simp [nowOp, opS, opP, yestS]
  ·obtain ⟨a, c, rfl⟩ := CZ Ds;have d := o a O;have X := o c O;simp [nowOp, opS, opP, BK, ← d, ← X, and_comm]
  ·obtain ⟨a, c, rfl⟩ := CZ Ds;have d := o a O;have X := o c O;simp [nowOp, opS, opP, DJ, ← d, ← X, or_comm]
def bitI (b : Bool) : Int := if b then 1 else 0
theorem bit_one (b : Bool) : (bitI b = 1) ↔ b = true := by cases b <;> simp [bitI]
def agedV (x : Vl) (N : Int) (v : Int) (first d : Bool) : Int := if N = 15 then bitI first else if N = 16 ∨ N = 17 then bitI d else v
mutual
def DZ (x : Vl) : Fml → Fml
 | .mk op nm v b args => .mk op nm (agedV x op v ((args.map (Br x)).getD 0 false) (Br x (.mk op nm v b args))) 0 (agedL x args)
def agedL (x : Vl) : LF → LF
 | [] => []
 | a :: l => DZ x a :: agedL x l
end
theorem agedL_eq (x : Vl) : ∀ l, agedL x l = l.map (DZ x)
 | [] => rfl
 | a :: l => by rw [agedL, agedL_eq x l]; rfl
theorem until_tail (p q : Nat → Prop) (t : Nat) : CT (fun i => p (i + 1)) (fun i => q (i + 1)) t ↔ CT p q (t + 1) := by
 constructor
 ·rintro ⟨k, X, W, R⟩;refine ⟨k + 1, by omega, W, fun j a b => ?_⟩;have : p (j - 1 + 1) := R (j - 1) U U
  rwa [show j - 1 + 1 = j by omega] at this
 ·rintro ⟨k, X, W, R⟩;refine ⟨k - 1, by omega, by show q (k - 1 + 1); rw [show k - 1 + 1 = k by omega]; exact W, fun j a b => R (j + 1) U U⟩
theorem rel_tail (p q : Nat → Prop) (t : Nat) : relS (fun i => p (i + 1)) (fun i => q (i + 1)) t ↔ relS p q (t + 1) := by
 rw [rel_not, rel_not];exact not_congr (until_tail (fun i => ¬ p i) (fun i => ¬ q i) t)
theorem since_tail {v b : Int} {p q Z a : Nat → Prop} (c : ∀ t, Z t ↔ p (t + 1)) (H : ∀ t, a t ↔ q (t + 1)) (d : b = 1 ↔ BK v p q 0) : ∀ t, BK b Z a t ↔ BK v p q (t + 1)
 | 0 => by
  show (a 0 ∨ Z 0 ∧ b = 1) ↔ (q (0 + 1) ∨ p (0 + 1) ∧ BK v p q 0);rw [c, H, d]
 | t + 1 => by
  show (a (t + 1) ∨ Z (t + 1) ∧ BK b Z a t) ↔ (q (t + 1 + 1) ∨ p (t + 1 + 1) ∧ BK v p q (t + 1));rw [c, H, since_tail c H d t]
theorem trig_tail {v b : Int} {p q Z a : Nat → Prop} (c : ∀ t, Z t ↔ p (t + 1)) (H : ∀ t, a t ↔ q (t + 1)) (d : b = 1 ↔ DJ v p q 0) : ∀ t, DJ b Z a t ↔ DJ v p q (t + 1)
 | 0 => by
  show (a 0 ∧ (Z 0 ∨ b = 1)) ↔ (q (0 + 1) ∧ (p (0 + 1) ∨ DJ v p q 0));rw [c, H, d]
 | t + 1 => by
  show (a (t + 1) ∧ (Z (t + 1) ∨ DJ b Z a t)) ↔ (q (t + 1 + 1) ∧ (p (t + 1 + 1) ∨ DJ v p q (t + 1)));rw [c, H, trig_tail c H d t]
theorem until_congr {p q Z a : Nat → Prop} (v : ∀ t, Z t ↔ p t) (H : ∀ t, a t ↔ q t) (t : Nat) : CT Z a t ↔ CT p q t := by
 have d : Z = p := funext fun t => propext (v t);have x : a = q := funext fun t => propext (H t);rw [d, x]
theorem rel_congr {p q Z a : Nat → Prop} (v : ∀ t, Z t ↔ p t) (H : ∀ t, a t ↔ q t) (t : Nat) : relS Z a t ↔ relS p q t := by
 have d : Z = p := funext fun t => propext (v t);have x : a = q := funext fun t => propext (H t);rw [d, x]
theorem aged_sem (s : Wd) : ∀ (f : Fml) (i : Bool), BC i f = true → ∀ t, (sem (tailW s) (DZ (s 0) f) t ↔ sem s f (t + 1))
 | .mk op nm v b args, i, hb => by
  have Z := hb;simp only [BC, Bool.and_eq_true] at hb;obtain ⟨⟨⟨⟨X, W⟩, R⟩, w⟩, P⟩ := hb;have o : ∀ a ∈ args, ∀ t, (sem (tailW s) (DZ (s 0) a) t ↔ sem s a (t + 1)) := fun a H => aged_sem s a _ (DK P H);have H := Bg W;intro t;rw [DZ, agedL_eq, sem, Cm, sem, Cm];rcases Bj X with rfl | rfl | rfl | rfl | rfl | rfl | rfl | rfl | rfl | rfl | rfl | rfl
  ·simp [opS, opP]
  ·simp [opS, opP]
  ·simp [opS, opP, agedV, tailW]
  ·obtain ⟨a, rfl⟩ := C7 Ds;have := o a O t;simp [opS, opP, this]
  ·simp only [opS, opP, List.map_map];simp only [List.mem_map, forall_exists_index, and_imp, forall_apply_eq_imp_iff₂, Function.comp];exact ⟨fun h a H => (o a H t).1 (h a H), fun h a H => (o a H t).2 (h a H)⟩
  ·simp only [opS, opP, List.map_map];simp only [List.mem_map, Function.comp];constructor
   ·rintro ⟨_, ⟨a, H, rfl⟩, h⟩;exact ⟨_, ⟨a, H, rfl⟩, (o a H t).1 h⟩
   ·rintro ⟨_, ⟨a, H, rfl⟩, h⟩;exact ⟨_, ⟨a, H, rfl⟩, (o a H t).2 h⟩
  ·obtain ⟨a, rfl⟩ := C7 Ds;exact o a O (t + 1)
  ·obtain ⟨a, c, rfl⟩ := CZ Ds;refine (until_congr (p := fun i => sem s a (i + 1)) (q := fun i => sem s c (i + 1)) (o a O) (o c O) t).trans ?_;exact until_tail _ _ t
  ·obtain ⟨a, c, rfl⟩ := CZ Ds;refine (rel_congr (p := fun i => sem s a (i + 1)) (q := fun i => sem s c (i + 1)) (o a O) (o c O) t).trans ?_;exact rel_tail _ _ t
  ·obtain ⟨a, rfl⟩ := C7 Ds;have d := DP a (by simpa [bareL, pstB] using P);have G := now_sem s a _ (by simpa [bareL, pstB] using P) d;cases t with
   | zero =>
    show agedV (s 0) 15 v (Br (s 0) a) _ = 1 ↔ sem s a 0;rw [← G]; exact bit_one _
   | succ t => exact o a O t
  ·obtain ⟨a, c, rfl⟩ := CZ Ds;have M : BC true a = true ∧ BC true c = true := by simpa [bareL, pstB] using P
   have d : Bs (.mk 16 nm v b [a, c]) = true := by simp [Bs, pastL, DP a M.1, DP c M.2]
   have G := now_sem s _ i Z d;rw [sem, Cm] at G;refine since_tail (o a O) (o c O) ?_ t;exact (bit_one _).trans G
  ·obtain ⟨a, c, rfl⟩ := CZ Ds;have M : BC true a = true ∧ BC true c = true := by simpa [bareL, pstB] using P
   have d : Bs (.mk 17 nm v b [a, c]) = true := by simp [Bs, pastL, DP a M.1, DP c M.2]
   have G := now_sem s _ i Z d;rw [sem, Cm] at G;refine trig_tail (o a O) (o c O) ?_ t;exact (bit_one _).trans G
def trueF : Fml := ⟨1, [], 0, 0, []⟩
def falseF : Fml := ⟨2, [], 0, 0, []⟩
def constF (b : Bool) : Fml := if b then trueF else falseF
def opF (N : Int) (l : LF) : Fml := ⟨N, [], 0, 0, l⟩
def rawOp (N : Int) (d : Fml) (o n : LF) : Fml :=
 if N = 5 ∨ N = 6 then opF N o
 else if N = 8 then n.getD 0 Ae
 else if N = 9 then opF 6 [o.getD 1 Ae, opF 5 [o.getD 0 Ae, d]]
 else if N = 10 then opF 5 [o.getD 1 Ae, opF 6 [o.getD 0 Ae, d]]
 else Ae
mutual
def rawF (x : Vl) : Fml → Fml
 | .mk op nm v b args => if Bs (.mk op nm v b args) then constF (Br x (.mk op nm v b args)) else rawOp op (DZ x (.mk op nm v b args)) (rawL x args) (agedL x args)
def rawL (x : Vl) : LF → LF
 | [] => []
 | a :: l => rawF x a :: rawL x l
end
theorem rawL_eq (x : Vl) : ∀ l, rawL x l = l.map (rawF x)
 | [] => rfl
 | a :: l => by rw [rawL, rawL_eq x l]; rfl
theorem sem_const (s : Wd) (b : Bool) (t : Nat) : sem s (constF b) t ↔ b = true := by
 cases b <;> simp [constF, trueF, falseF, sem, semL, opS, opP]
theorem sem_or2 (s : Wd) (a c : Fml) (t : Nat) : sem s (opF 6 [a, c]) t ↔ sem s a t ∨ sem s c t := by simp [opF, sem, semL, opS, opP]
theorem sem_and2 (s : Wd) (a c : Fml) (t : Nat) : sem s (opF 5 [a, c]) t ↔ sem s a t ∧ sem s c t := by simp [opF, sem, semL, opS, opP]
theorem raw_sem (s : Wd) : ∀ (f : Fml), BC false f = true → (sem (tailW s) (rawF (s 0) f) 0 ↔ sem s f 0)
 | .mk op nm v b args, hb => by
  have Z := hb;rw [rawF];by_cases g : Bs (.mk op nm v b args) = true
  ·rw [if_pos g, sem_const];exact now_sem s _ _ hb g
  ·rw [if_neg g];simp only [BC, Bool.and_eq_true] at hb;obtain ⟨⟨⟨⟨X, W⟩, R⟩, w⟩, P⟩ := hb;have H := Bg W;have i : ∀ k : Int, op = k → Ar k 0 = true → args = [] → False := fun k e _ x => g (by subst x; subst e; rcases Bj X with e | e | e | e | e | e | e | e | e | e | e | e <;> subst e <;> simp_all [Bs, pastL, Ar]);have G : pstB op = false → ∀ a ∈ args, BC false a = true := fun h a H => by rw [h] at P; exact DK P H
   have d : pstB op = false → ∀ a ∈ args, (sem (tailW s) (rawF (s 0) a) 0 ↔ sem s a 0) := fun h a H => raw_sem s a (G h a H)
   have j : pstB op = true → False := fun h => by
    rw [h] at P;refine g ?_;simp only [Bs, Bool.and_eq_true, Bool.not_eq_true', Bool.or_eq_false_iff, decide_eq_false_iff_not];simp only [pstB, Bool.and_eq_true, decide_eq_true_eq] at h;exact ⟨by omega, pastL_of fun a H => DP a (DK (by simpa using P) H)⟩
   rw [rawL_eq, agedL_eq];rcases Bj X with rfl | rfl | rfl | rfl | rfl | rfl | rfl | rfl | rfl | rfl | rfl | rfl
   ·exact (i 1 rfl rfl (List.eq_nil_of_length_eq_zero Ds)).elim
   ·exact (i 2 rfl rfl (List.eq_nil_of_length_eq_zero Ds)).elim
   ·exact (i 3 rfl rfl (List.eq_nil_of_length_eq_zero Ds)).elim
   ·obtain ⟨a, rfl⟩ := C7 Ds;have n : a.op = 3 := by simpa using w
    have m := G rfl a O;obtain ⟨o, q, p, r, l⟩ := a;obtain rfl : o = 3 := n;simp only [BC, Bool.and_eq_true] at m;have := List.eq_nil_of_length_eq_zero (by simpa [Ar] using Bg m.1.1.1.2 : l.length = 0);subst this;exact absurd (by simp [Bs, pastL]) g
   ·show sem _ (opF 5 _) 0 ↔ _;rw [sem, Cm];simp only [opF, sem, Cm, opS, opP, List.map_map];simp only [List.mem_map, forall_exists_index, and_imp, forall_apply_eq_imp_iff₂, Function.comp];exact ⟨fun h a H => (d rfl a H).1 (h a H), fun h a H => (d rfl a H).2 (h a H)⟩
   ·show sem _ (opF 6 _) 0 ↔ _;rw [sem, Cm];simp only [opF, sem, Cm, opS, opP, List.map_map];simp only [List.mem_map, Function.comp];constructor
    ·rintro ⟨_, ⟨a, H, rfl⟩, h⟩;exact ⟨_, ⟨a, H, rfl⟩, (d rfl a H).1 h⟩
    ·rintro ⟨_, ⟨a, H, rfl⟩, h⟩;exact ⟨_, ⟨a, H, rfl⟩, (d rfl a H).2 h⟩
   ·obtain ⟨a, rfl⟩ := C7 Ds;exact aged_sem s a _ (G rfl a O) 0
   ·obtain ⟨a, c, rfl⟩ := CZ Ds;have e := aged_sem s _ _ Z 0;show sem (tailW s) (opF 6 [rawF (s 0) c, opF 5 [rawF (s 0) a, DZ (s 0) (.mk 9 nm v b [a, c])]]) 0 ↔ _;rw [sem_or2, sem_and2, d rfl a O, d rfl c O, e];have : ∀ t, sem s (.mk 9 nm v b [a, c]) t ↔ CT (sem s a) (sem s c) t := fun t => by rw [sem, Cm]; exact Iff.rfl
    rw [this, this, until_step _ _ 0]
   ·obtain ⟨a, c, rfl⟩ := CZ Ds;have e := aged_sem s _ _ Z 0;show sem (tailW s) (opF 5 [rawF (s 0) c, opF 6 [rawF (s 0) a, DZ (s 0) (.mk 10 nm v b [a, c])]]) 0 ↔ _;rw [sem_and2, sem_or2, d rfl a O, d rfl c O, e];have : ∀ t, sem s (.mk 10 nm v b [a, c]) t ↔ relS (sem s a) (sem s c) t := fun t => by rw [sem, Cm]; exact Iff.rfl
    rw [this, this, rel_step _ _ 0]
   ·exact (j rfl).elim
   ·exact (j rfl).elim
   ·exact (j rfl).elim
def cmpI (a b : Int) : Int := if a < b then -1 else if b < a then 1 else 0
def Df : LU → LU → Int
 | [], [] => 0
 | [], _ :: _ => -1
 | _ :: _, [] => 1
 | a :: s, b :: t => if a.toNat < b.toNat then -1 else if b.toNat < a.toNat then 1 else Df s t
def Bn (a b : Int) : Int := if a = 0 then b else a
mutual
def BO : Fml → Fml → Int
 | .mk o n v b l, .mk o' n' v' b' l' => Bn (cmpI o o') (Bn (Df n n') (Bn (cmpI v v') (Bn (cmpI b b') (Bn (cmpI l.length l'.length) (cmpL l l')))))
def cmpL : LF → LF → Int
 | a :: l, c :: m => Bn (BO a c) (cmpL l m)
 | [], _ => 0
 | _ :: _, [] => 0
end
theorem thenI_zero {a b : Int} : Bn a b = 0 ↔ a = 0 ∧ b = 0 := by
 unfold Bn; split <;> simp_all
theorem cmpI_zero {a b : Int} : cmpI a b = 0 ↔ a = b := by unfold cmpI; split <;> (try split) <;> omega
theorem cmpI_flip (a b : Int) : cmpI b a = -cmpI a b := by unfold cmpI; split <;> (try split) <;> (try split) <;> omega
theorem cmpI_trans {a b c : Int} (h : cmpI a b < 0) (t : cmpI b c < 0) : cmpI a c < 0 := by
 unfold cmpI at *; split at h <;> (try split at h) <;> split at t <;> (try split at t) <;> split <;> (try split) <;> omega
theorem cmpS_zero : ∀ {s t : LU}, Df s t = 0 ↔ s = t
 | [], [] => by simp [Df]
 | [], _ :: _ => by simp [Df]
 | _ :: _, [] => by simp [Df]
 | a :: s, b :: t => by
  rw [Df]
  split
  ·rename_i h;refine ⟨fun h => by omega, fun W => ?_⟩;cases W; omega
  split
  ·rename_i h;refine ⟨fun h => by omega, fun W => ?_⟩;cases W; omega
  ·rename_i h1 W;have : a = b := UInt8.toNat_inj.1 U;rw [cmpS_zero, this]; simp
theorem cmpS_flip : ∀ (s t : LU), Df t s = -Df s t
 | [], [] => rfl
 | [], _ :: _ => rfl
 | _ :: _, [] => rfl
 | a :: s, b :: t => by
  rw [Df, Df, cmpS_flip s t];by_cases h : a.toNat < b.toNat
  ·rw [if_neg U, if_pos h, if_pos h]; rfl
  ·by_cases W : b.toNat < a.toNat
   ·rw [if_pos W, if_neg h, if_pos W]
   ·rw [if_neg W, if_neg h, if_neg h, if_neg W]
theorem cmpS_trans : ∀ {s t u : LU}, Df s t < 0 → Df t u < 0 → Df s u < 0
 | [], [], u, h, _ => by simp [Df] at h
 | [], _ :: _, [], _, h => by simp [Df] at h
 | [], _ :: _, _ :: _, _, _ => by simp [Df]
 | _ :: _, [], u, h, _ => by simp [Df] at h
 | _ :: _, _ :: _, [], _, h => by simp [Df] at h
 | a :: s, b :: t, c :: u, h, h' => by
  rw [Df] at h h' ⊢;by_cases X : a.toNat < b.toNat
  ·by_cases W : c.toNat < b.toNat
   ·rw [if_neg U, if_pos W] at h'; omega
   ·rw [if_pos U]; omega
  ·rw [if_neg X] at h;by_cases W : b.toNat < a.toNat
   ·rw [if_pos W] at h; omega
   ·rw [if_neg W] at h;by_cases R : b.toNat < c.toNat
    ·rw [if_pos U]; omega
    ·rw [if_neg R] at h';by_cases w : c.toNat < b.toNat
     ·rw [if_pos w] at h'; omega
     ·rw [if_neg w] at h';rw [if_neg U, if_neg U];exact cmpS_trans h h'
theorem then_flip {a b c r : Int} (h : c = -a) (t : a = 0 → r = -b) : Bn c r = -Bn a b := by
 unfold Bn;by_cases s : a = 0
 ·rw [if_pos U, if_pos s]; exact t s
 ·rw [if_neg U, if_neg s]; exact h
theorem then_lt {a b : Int} : Bn a b < 0 ↔ a < 0 ∨ a = 0 ∧ b < 0 := by
 unfold Bn; split <;> omega
theorem then_trans {n m C k b t : Int} (z : n < 0 → m < 0 → C < 0) (P : n = 0 → C = m) (i : m = 0 → C = n) (S : n = 0 → m = 0 → k < 0 → b < 0 → t < 0) (X : Bn n k < 0) (W : Bn m b < 0) : Bn C t < 0 := by
 rw [then_lt] at *;rcases X with X | ⟨X, l⟩ <;> rcases W with W | ⟨W, a⟩
 ·exact .inl (z X W)
 ·exact .inl (by have := i W; omega)
 ·exact .inl (by have := P X; omega)
 ·refine .inr ⟨by have := P X; omega, S X W l a⟩
mutual
theorem CL : ∀ (f g : Fml), BO f g = 0 ↔ f = g
 | .mk o n v b l, .mk o' n' v' b' l' => by
  rw [BO];simp only [thenI_zero, cmpI_zero, cmpS_zero, Fml.mk.injEq];constructor
  ·rintro ⟨rfl, rfl, rfl, rfl, h, h'⟩;exact ⟨rfl, rfl, rfl, rfl, (cmpL_zero l l' U).1 h'⟩
  ·rintro ⟨rfl, rfl, rfl, rfl, rfl⟩;exact ⟨rfl, rfl, rfl, rfl, rfl, (cmpL_zero l l rfl).2 rfl⟩
theorem cmpL_zero : ∀ (l m : LF), l.length = m.length → (cmpL l m = 0 ↔ l = m)
 | a :: l, c :: m, h => by
  rw [cmpL, thenI_zero, CL a c, cmpL_zero l m Dy]; simp
 | [], [], _ => by simp [cmpL]
 | [], _ :: _, h => by simp at h
 | _ :: _, [], h => by simp at h
end
mutual
theorem cmpF_flip : ∀ (f g : Fml), BO g f = -BO f g
 | .mk o n v b l, .mk o' n' v' b' l' => by
  rw [BO, BO];refine then_flip (cmpI_flip _ _) fun _ => then_flip (cmpS_flip _ _) fun _ => then_flip (cmpI_flip _ _) fun _ => then_flip (cmpI_flip _ _) fun _ => then_flip (cmpI_flip _ _) fun _ => cmpL_flip l l'
theorem cmpL_flip : ∀ (l m : LF), cmpL m l = -cmpL l m
 | a :: l, c :: m => by rw [cmpL, cmpL]; exact then_flip (cmpF_flip a c) fun _ => cmpL_flip l m
 | [], [] => rfl
 | [], _ :: _ => rfl
 | _ :: _, [] => rfl
end
theorem cmpI_left {a b c : Int} (h : cmpI a b = 0) : cmpI a c = cmpI b c := by rw [cmpI_zero.1 h]
theorem cmpI_right {a b c : Int} (h : cmpI b c = 0) : cmpI a c = cmpI a b := by rw [cmpI_zero.1 h]
theorem cmpS_left {a b c : LU} (h : Df a b = 0) : Df a c = Df b c := by rw [cmpS_zero.1 h]
theorem cmpS_right {a b c : LU} (h : Df b c = 0) : Df a c = Df a b := by rw [cmpS_zero.1 h]
mutual
theorem DG : ∀ (f g k : Fml), BO f g < 0 → BO g k < 0 → BO f k < 0
 | .mk o n v b l, .mk o' n' v' b' l', .mk o'' n'' v'' b'' l'' => by
  rw [BO, BO, BO]
  refine then_trans cmpI_trans cmpI_left cmpI_right fun _ _ => then_trans cmpS_trans cmpS_left cmpS_right fun _ _ => then_trans cmpI_trans cmpI_left cmpI_right fun _ _ => then_trans cmpI_trans cmpI_left cmpI_right fun _ _ =>
   then_trans cmpI_trans cmpI_left cmpI_right fun h1 h2 => cmpL_trans l l' l'' (by have := cmpI_zero.1 h1; omega) (by have := cmpI_zero.1 h2; omega)
theorem cmpL_trans : ∀ (l m k : LF), l.length = m.length → m.length = k.length → cmpL l m < 0 → cmpL m k < 0 → cmpL l k < 0
 | a :: l, c :: m, d :: k, h, h' => by
  rw [cmpL, cmpL, cmpL];exact then_trans (DG a c d) (fun e => by rw [(CL a c).1 e]) (fun e => by rw [(CL c d).1 e]) fun _ _ => cmpL_trans l m k Dy (by simpa using h')
 | [], [], _, _, _ => fun h => by simp [cmpL] at h
 | [], _ :: _, _, h, _ => by simp at h
 | _ :: _, [], _, h, _ => by simp at h
 | _ :: _, _ :: _, [], _, h => by simp at h
end
def insF (a : Fml) : LF → LF
 | [] => [a]
 | c :: l => if BO a c < 0 then a :: c :: l else if BO a c = 0 then c :: l else c :: insF a l
def dist (l : LF) : LF := l.foldr insF []
def Inc : LF → Prop
 | [] => True
 | a :: l => (∀ c ∈ l, BO a c < 0) ∧ Inc l
theorem mem_insF {a x : Fml} : ∀ {l : LF}, x ∈ insF a l ↔ x = a ∨ x ∈ l
 | [] => by simp [insF]
 | c :: l => by
  rw [insF]
  split
  ·simp
  split
  ·rename_i h;have := (CL a c).1 h;subst this;simp
  ·simp only [List.mem_cons, mem_insF (l := l)];constructor
   ·rintro (h | h | h)
    ·exact .inr (.inl h)
    ·exact .inl h
    ·exact .inr (.inr h)
   ·rintro (h | h | h)
    ·exact .inr (.inl h)
    ·exact .inl h
    ·exact .inr (.inr h)
theorem mem_dist {x : Fml} : ∀ {l : LF}, x ∈ dist l ↔ x ∈ l
 | [] => Iff.rfl
 | c :: l => by
  show x ∈ insF c (dist l) ↔ _;rw [mem_insF, mem_dist (l := l)]; simp
theorem inc_insF {a : Fml} : ∀ {l : LF}, Inc l → Inc (insF a l)
 | [], _ => by simp [insF, Inc]
 | c :: l, h => by
  rw [insF]
  split
  ·rename_i hlt;refine ⟨fun d C => ?_, h⟩;rcases List.mem_cons.1 C with rfl | C
   ·exact hlt
   ·exact DG _ _ _ hlt (h.1 d C)
  split
  ·exact h
  ·rename_i h1 h2;refine ⟨fun d C => ?_, inc_insF h.2⟩;rcases mem_insF.1 C with rfl | C
   ·have := cmpF_flip d c; omega
   ·exact h.1 d C
theorem inc_dist : ∀ l : LF, Inc (dist l)
 | [] => trivial
 | c :: l => inc_insF (inc_dist l)
theorem cmp_irr (a : Fml) : ¬ BO a a < 0 := by rw [(CL a a).2 rfl]; omega
theorem inc_ext : ∀ {l m : LF}, Inc l → Inc m → (∀ x, x ∈ l ↔ x ∈ m) → l = m
 | [], [], _, _, _ => rfl
 | [], c :: m, _, _, h => by have := (h c).2 O; cases this
 | a :: l, [], _, _, h => by have := (h a).1 O; cases this
 | a :: l, c :: m, hl, hm, h => by
  have e : a = c := by
   have X := (h a).1 O;have W := (h c).2 O;rcases List.mem_cons.1 X with rfl | X
   ·rfl
   ·rcases List.mem_cons.1 W with rfl | W
    ·rfl
    ·exact absurd (DG _ _ _ (hl.1 c W) (hm.1 a X)) (cmp_irr a)
  subst e
  have : l = m := inc_ext hl.2 hm.2 fun x => by
   constructor
   ·intro V;rcases List.mem_cons.1 ((h x).1 (List.mem_cons_of_mem _ V)) with rfl | y
    ·exact absurd (hl.1 x V) (cmp_irr x)
    ·exact y
   ·intro V;rcases List.mem_cons.1 ((h x).2 (List.mem_cons_of_mem _ V)) with rfl | y
    ·exact absurd (hm.1 x V) (cmp_irr x)
    ·exact y
  rw [this]
theorem dist_id {l : LF} (h : Inc l) : dist l = l := inc_ext (inc_dist l) h fun _ => mem_dist
def Ct (N : Int) : Int := if N = 6 then 2 else 1
def CV (N : Int) : Int := if N = 6 then 1 else 2
def gath (N : Int) : LF → Option (LF)
 | [] => some []
 | f :: l => if f.op = N then (gath N l).map (f.args ++ ·) else if f.op = CV N then none else if f.op = Ct N then gath N l else (gath N l).map (f :: ·)
def oppB (l : LF) : Bool := l.any fun x => decide (x.op = 4) && l.any fun y => decide (BO y (x.args.getD 0 Ae) = 0)
def joinD (N : Int) (d : LF) : Fml := if oppB d then ⟨CV N, [], 0, 0, []⟩ else match d with
 | [] => ⟨Ct N, [], 0, 0, []⟩
 | [a] => a
 | d => opF N d
def Di (N : Int) (l : LF) : Fml := match gath N l with
 | none => ⟨CV N, [], 0, 0, []⟩
 | some g => joinD N (dist g)
def CP (f : Fml) : Bool := decide (f.op = 1) || decide (f.op = 2)
def BY (N : Int) (nm : LU) (v : Int) (ps : LF) : Fml :=
 if N = 5 ∨ N = 6 then Di N ps
 else if N = 8 ∧ CP (ps.getD 0 Ae) = true then ps.getD 0 Ae
 else if N = 9 ∧ (CP (ps.getD 1 Ae) = true ∨ (ps.getD 0 Ae).op = 2) then ps.getD 1 Ae
 else if N = 10 ∧ (CP (ps.getD 1 Ae) = true ∨ (ps.getD 0 Ae).op = 1) then ps.getD 1 Ae
 else ⟨N, nm, v, 0, ps⟩
mutual
def Ao : Fml → Fml
 | .mk op nm v _ args => BY op nm v (canonL args)
def canonL : LF → LF
 | [] => []
 | a :: l => Ao a :: canonL l
end
theorem canonL_eq : ∀ l, canonL l = l.map Ao
 | [] => rfl
 | a :: l => by rw [canonL, canonL_eq l]; rfl
def Fl (N : Int) (c : Fml) : LF := if c.op = N then c.args else if c.op = Ct N then [] else [c]
def zAny (N : Int) (l : LF) : Bool := l.any fun c => decide (c.op = CV N)
def conO (N : Int) : Fml := ⟨N, [], 0, 0, []⟩
theorem joinD_eq (N : Int) (d : LF) : joinD N d = if oppB d then conO (CV N) else match d with | [] => conO (Ct N) | [a] => a | d => opF N d := rfl
theorem uz_ne {N : Int} (h : N = 5 ∨ N = 6) : CV N ≠ N ∧ Ct N ≠ N ∧ CV N ≠ Ct N ∧ (CV N = 1 ∨ CV N = 2) ∧ (Ct N = 1 ∨ Ct N = 2) := by
 unfold CV Ct;rcases h with rfl | rfl <;> decide
theorem gath_eq {N : Int} (h : N = 5 ∨ N = 6) : ∀ l : LF, gath N l = if zAny N l then none else some (l.flatMap (Fl N))
 | [] => rfl
 | f :: l => by
  obtain ⟨X, W, R, _, _⟩ := uz_ne h;have o := gath_eq h l;rw [gath, o];have c : zAny N (f :: l) = (decide (f.op = CV N) || zAny N l) := rfl;rw [c, List.flatMap_cons];by_cases a : f.op = N
  ·rw [if_pos a, decide_eq_false (by rw [a]; exact fun e => X e.symm), Bool.false_or];have : Fl N f = f.args := by unfold Fl; rw [if_pos a]
   rw [this];cases zAny N l <;> rfl
  ·rw [if_neg a];by_cases n : f.op = CV N
   ·rw [if_pos n, decide_eq_true n]; rfl
   ·rw [if_neg n, decide_eq_false n, Bool.false_or];by_cases r : f.op = Ct N
    ·rw [if_pos r];have : Fl N f = [] := by unfold Fl; rw [if_neg a, if_pos r]
     rw [this]; rfl
    ·rw [if_neg r];have : Fl N f = [f] := by unfold Fl; rw [if_neg a, if_neg r]
     rw [this];cases zAny N l <;> rfl
theorem joinM_eq {N : Int} (h : N = 5 ∨ N = 6) (l : LF) : Di N l = if zAny N l then conO (CV N) else joinD N (dist (l.flatMap (Fl N))) := by
 unfold Di;rw [gath_eq h];cases zAny N l <;> rfl
theorem opp_iff {l : LF} : oppB l = true ↔ ∃ x ∈ l, x.op = 4 ∧ x.args.getD 0 Ae ∈ l := by
 unfold oppB;rw [List.any_eq_true];constructor
 ·rintro ⟨x, V, h⟩;rw [Bool.and_eq_true, List.any_eq_true] at h;obtain ⟨X, y, K, W⟩ := h;have e := (CL _ _).1 (of_decide_eq_true W);exact ⟨x, V, of_decide_eq_true X, e ▸ K⟩
 ·rintro ⟨x, V, X, W⟩;refine ⟨x, V, ?_⟩;rw [Bool.and_eq_true, List.any_eq_true];exact ⟨decide_eq_true X, _, W, decide_eq_true ((CL _ _).2 rfl)⟩
def shO (N : Int) (nm : LU) (v : Int) (args : LF) : Prop :=
 looseO N = true ∧ Ar N args.length = true ∧ (N ≠ 3 → nm = []) ∧ (N ≠ 3 → N ≠ 15 → N ≠ 16 → N ≠ 17 → v = 0) ∧ (N = 4 → ∀ a ∈ args, a.op = 3)
mutual
def Sh : Fml → Prop
 | .mk op nm v b args => b = 0 ∧ shO op nm v args ∧ ShL args
def ShL : LF → Prop
 | [] => True
 | a :: l => Sh a ∧ ShL l
end
theorem shL_iff : ∀ {l : LF}, ShL l ↔ ∀ a ∈ l, Sh a
 | [] => by simp [ShL]
 | a :: l => by rw [ShL, shL_iff]; simp
theorem sh_iff {N v b : Int} {nm : LU} {args : LF} : Sh (.mk N nm v b args) ↔ b = 0 ∧ shO N nm v args ∧ ∀ a ∈ args, Sh a := by rw [Sh, shL_iff]
theorem sh_eq {f : Fml} (h : Sh f) : f.bound = 0 ∧ shO f.op f.name f.val f.args ∧ ∀ a ∈ f.args, Sh a := by
 obtain ⟨N, o, v, b, args⟩ := f;exact sh_iff.1 h
theorem DL : ∀ {f : Fml} {i : Bool}, BC i f = true → Sh f
 | .mk op nm v b args, i, h => by
  simp only [BC, Bool.and_eq_true] at h;obtain ⟨⟨⟨⟨X, W⟩, R⟩, w⟩, P⟩ := h;have H := Bg W;simp only [Bp, Bool.and_eq_true, decide_eq_true_eq] at W;obtain ⟨⟨⟨⟨⟨⟨⟨k, l⟩, m⟩, C⟩, N⟩, E⟩, j⟩, S⟩ := W;have g := Bj X;refine sh_iff.2 ⟨?_, ⟨X, H, fun G => ?_, fun d x z e => ?_, fun F a A => ?_⟩, fun a A => DL (DK P A)⟩
  ·rw [if_neg U] at j; omega
  ·rw [if_neg G] at S;simpa using S
  ·rw [if_neg d, if_neg U] at N; omega
  ·rw [if_pos F] at w;subst F;have Z : args.length = 1 := by simpa [Ar] using H
   obtain ⟨c, rfl⟩ := C7 Z;have : a = c := by simpa using A
   subst this;simpa using w
def cfO (N : Int) (args : LF) : Prop :=
 (N = 5 ∨ N = 6 → Inc args ∧ oppB args = false ∧ ∀ a ∈ args, a.op ≠ N ∧ a.op ≠ CV N ∧ a.op ≠ Ct N) ∧
 (N = 8 → CP (args.getD 0 Ae) = false) ∧ (N = 9 → CP (args.getD 1 Ae) = false ∧ (args.getD 0 Ae).op ≠ 2) ∧ (N = 10 → CP (args.getD 1 Ae) = false ∧ (args.getD 0 Ae).op ≠ 1)
mutual
def CF : Fml → Prop
 | .mk op nm v b args => b = 0 ∧ shO op nm v args ∧ cfO op args ∧ CFL args
def CFL : LF → Prop
 | [] => True
 | a :: l => CF a ∧ CFL l
end
theorem cfL_iff : ∀ {l : LF}, CFL l ↔ ∀ a ∈ l, CF a
 | [] => by simp [CFL]
 | a :: l => by rw [CFL, cfL_iff]; simp
theorem cf_iff {N v b : Int} {nm : LU} {args : LF} : CF (.mk N nm v b args) ↔ b = 0 ∧ shO N nm v args ∧ cfO N args ∧ ∀ a ∈ args, CF a := by rw [CF, cfL_iff]
theorem cf_eq {f : Fml} (h : CF f) : f.bound = 0 ∧ shO f.op f.name f.val f.args ∧ cfO f.op f.args ∧ ∀ a ∈ f.args, CF a := by
 obtain ⟨N, o, v, b, args⟩ := f;exact cf_iff.1 h
theorem cf_sh : ∀ {f : Fml}, CF f → Sh f
 | .mk op nm v b args, h => by
  obtain ⟨X, W, _, w⟩ := cf_iff.1 h;exact sh_iff.2 ⟨X, W, fun a H => cf_sh (w a H)⟩
theorem sh_con {f : Fml} (h : Sh f) (a : f.op = 1 ∨ f.op = 2) : f = conO f.op := by
 obtain ⟨N, o, v, b, j⟩ := f;obtain ⟨X, ⟨_, R, w, P, _⟩, _⟩ := sh_iff.1 h;have c : N = 1 ∨ N = 2 := a
 have d : j.length = 0 := by
  have := R;unfold Ar at this;rw [if_pos U] at this;exact of_decide_eq_true this
 rw [X, w U, P U U U U, List.eq_nil_of_length_eq_zero d];rfl
theorem cf_con {N : Int} (h : N = 1 ∨ N = 2) : CF (conO N) := by
 refine cf_iff.2 ⟨rfl, ⟨?_, ?_, fun _ => rfl, fun _ _ _ _ => rfl, fun w => by omega⟩, ⟨fun P => by omega, fun P => by omega, fun P => by omega, fun P => by omega⟩, fun a H => by cases H⟩
 ·rcases h with rfl | rfl <;> rfl
 ·rcases h with rfl | rfl <;> rfl
theorem fl_cf {N : Int} (h : N = 5 ∨ N = 6) {c : Fml} (T : CF c) (n : c.op ≠ CV N) : ∀ a ∈ Fl N c, CF a ∧ a.op ≠ N ∧ a.op ≠ CV N ∧ a.op ≠ Ct N := by
 obtain ⟨_, _, R, w⟩ := cf_eq T;intro a H;unfold Fl at H;by_cases f : c.op = N
 ·rw [if_pos f] at H;have := (R.1 (by rw [f]; exact h)).2.2 a H;rw [f] at this;exact ⟨w a H, this⟩
 ·rw [if_neg f] at H;by_cases r : c.op = Ct N
  ·rw [if_pos r] at H; cases H
  ·rw [if_neg r] at H;have : a = c := by simpa using H
   subst this;exact ⟨T, f, n, r⟩
theorem fl_self {N : Int} {a : Fml} (X : a.op ≠ N) (W : a.op ≠ Ct N) : Fl N a = [a] := by unfold Fl; rw [if_neg X, if_neg W]
theorem zAny_false {N : Int} {l : LF} : zAny N l = false ↔ ∀ c ∈ l, c.op ≠ CV N := by
 unfold zAny;rw [List.any_eq_false];simp
theorem zAny_true {N : Int} {l : LF} : zAny N l = true ↔ ∃ c ∈ l, c.op = CV N := by
 unfold zAny;rw [List.any_eq_true];simp
theorem flat_self {N : Int} : ∀ {d : LF}, (∀ a ∈ d, a.op ≠ N ∧ a.op ≠ Ct N) → d.flatMap (Fl N) = d
 | [], _ => rfl
 | a :: d, h => by
  rw [List.flatMap_cons, fl_self (h a O).1 (h a O).2, flat_self fun c T => h c Dw]; rfl
theorem joinD_cf {N : Int} (h : N = 5 ∨ N = 6) {d : LF} (F : Inc d) (C : ∀ a ∈ d, CF a ∧ a.op ≠ N ∧ a.op ≠ CV N ∧ a.op ≠ Ct N) : CF (joinD N d) := by
 obtain ⟨_, _, _, n, r⟩ := uz_ne h;rw [joinD_eq];cases ho : oppB d with
 | true => exact cf_con n
 | false =>
  match d, F, C, ho with
  | [], _, _, _ => exact cf_con r
  | [a], _, C, _ => exact (C a O).1
  | a :: c :: d, F, C, ho =>
   refine cf_iff.2 ⟨rfl, ⟨?_, ?_, fun _ => rfl, fun _ _ _ _ => rfl, fun w => by omega⟩, ⟨fun _ => ⟨F, ho, fun x V => (C x V).2⟩, fun y => by omega, fun y => by omega, fun y => by omega⟩, fun x V => (C x V).1⟩
   ·rcases h with rfl | rfl <;> rfl
   ·unfold Ar;rw [if_neg U, if_pos h];exact decide_eq_true O
theorem dist_parts {N : Int} (h : N = 5 ∨ N = 6) {l : LF} (M : ∀ c ∈ l, CF c) (n : zAny N l = false) : ∀ a ∈ dist (l.flatMap (Fl N)), CF a ∧ a.op ≠ N ∧ a.op ≠ CV N ∧ a.op ≠ Ct N := by
 intro a H;rw [mem_dist, List.mem_flatMap] at H;obtain ⟨c, T, H⟩ := H;exact fl_cf h (M c T) (zAny_false.1 n c T) a H
theorem joinM_cf {N : Int} (h : N = 5 ∨ N = 6) {l : LF} (M : ∀ c ∈ l, CF c) : CF (Di N l) := by
 rw [joinM_eq h];cases hz : zAny N l with
 | true => exact cf_con (uz_ne h).2.2.2.1
 | false => exact joinD_cf h (inc_dist _) (dist_parts h M hz)
theorem canon_eq (N v b : Int) (nm : LU) (args : LF) : Ao (.mk N nm v b args) = BY N nm v (args.map Ao) := by rw [Ao, canonL_eq]
theorem canonOp_cf {N v : Int} {nm : LU} {args : LF} (h : shO N nm v args) (H : ∀ a ∈ args, CF a) : CF (BY N nm v args) := by
 obtain ⟨d, W, R, w, P⟩ := h;unfold BY;by_cases j : N = 5 ∨ N = 6
 ·rw [if_pos j]; exact joinM_cf j H
 rw [if_neg j]
 have c : ∀ i, i < args.length → CF (args.getD i Ae) := fun i F => by
  rw [List.getD_eq_getElem?_getD, List.getElem?_eq_getElem F];exact H _ (List.getElem_mem F)
 have S : N = 8 → args.length = 1 := fun e => by subst e; simpa [Ar] using W
 have X : N = 9 ∨ N = 10 → args.length = 2 := fun e => by
  unfold Ar at W;rw [if_neg U, if_neg j, if_pos U] at W;exact of_decide_eq_true W
 by_cases b : N = 8 ∧ CP (args.getD 0 Ae) = true
 ·rw [if_pos b]; exact c 0 (by have := S b.1; omega)
 rw [if_neg b];by_cases V : N = 9 ∧ (CP (args.getD 1 Ae) = true ∨ (args.getD 0 Ae).op = 2)
 ·rw [if_pos V]; exact c 1 (by have := X (.inl V.1); omega)
 rw [if_neg V];by_cases k : N = 10 ∧ (CP (args.getD 1 Ae) = true ∨ (args.getD 0 Ae).op = 1)
 ·rw [if_pos k]; exact c 1 (by have := X (.inr k.1); omega)
 rw [if_neg k];refine cf_iff.2 ⟨rfl, ⟨d, W, R, w, P⟩, ⟨fun e => absurd e j, fun e => ?_, fun e => ?_, fun e => ?_⟩, H⟩
 ·cases hb : CP (args.getD 0 Ae) with
  | false => rfl
  | true => exact absurd ⟨e, hb⟩ b
 ·refine ⟨?_, fun t => V ⟨e, .inr t⟩⟩;cases hb : CP (args.getD 1 Ae) with
  | false => rfl
  | true => exact absurd ⟨e, .inl hb⟩ V
 ·refine ⟨?_, fun t => k ⟨e, .inr t⟩⟩;cases hb : CP (args.getD 1 Ae) with
  | false => rfl
  | true => exact absurd ⟨e, .inl hb⟩ k
theorem canon_op3 {f : Fml} (h : f.op = 3) : (Ao f).op = 3 := by
 obtain ⟨N, o, v, b, j⟩ := f;obtain rfl : N = 3 := h;rw [canon_eq];rfl
theorem shO_map {N v : Int} {nm : LU} {args : LF} (h : shO N nm v args) (g : Fml → Fml) (z : ∀ a, a.op = 3 → (g a).op = 3) : shO N nm v (args.map g) := by
 obtain ⟨X, W, R, w, P⟩ := h;refine ⟨X, by rw [List.length_map]; exact W, R, w, fun e a H => ?_⟩;obtain ⟨c, T, rfl⟩ := List.mem_map.1 H;exact z c (P e c T)
theorem canon_cf : ∀ {f : Fml}, Sh f → CF (Ao f)
 | .mk op nm v b args, h => by
  obtain ⟨_, W, R⟩ := sh_iff.1 h;rw [canon_eq];refine canonOp_cf (shO_map W Ao fun a => canon_op3) fun a H => ?_;obtain ⟨c, T, rfl⟩ := List.mem_map.1 H;exact canon_cf (R c T)
theorem canon_fix : ∀ {f : Fml}, CF f → Ao f = f
 | .mk op nm v b args, h => by
  obtain ⟨X, W, R, w⟩ := cf_iff.1 h
  have e : args.map Ao = args := by
   have : ∀ l : LF, (∀ a ∈ l, Ao a = a) → l.map Ao = l := by
    intro l
    induction l with
    | nil => intro _; rfl
    | cons a l ih => intro M; rw [List.map_cons, M a O, ih fun c T => M c Dw]
   exact this args fun a H => canon_fix (w a H)
  rw [canon_eq, e];unfold BY;by_cases j : op = 5 ∨ op = 6
  ·rw [if_pos j, joinM_eq j];obtain ⟨k, m, g⟩ := R.1 j;have n : zAny op args = false := zAny_false.2 fun c T => (g c T).2.1;rw [n, flat_self fun a H => ⟨(g a H).1, (g a H).2.2⟩, dist_id k, joinD_eq, m]
   have M : 2 ≤ args.length := by
    have := W.2.1;unfold Ar at this;rw [if_neg U, if_pos j] at this;exact of_decide_eq_true this
   have i : nm = [] := W.2.2.1 U;have x : v = 0 := W.2.2.2.1 U U U U;subst X; subst i; subst x
   match args, M with
   | a :: c :: d, _ => rfl
  rw [if_neg j];rw [if_neg (by rintro ⟨e, t⟩; rw [R.2.1 e] at t; cases t)]
  rw [if_neg (by
   rintro ⟨e, t | t⟩
   ·rw [(R.2.2.1 e).1] at t; cases t
   ·exact (R.2.2.1 e).2 t)]
  rw [if_neg (by
   rintro ⟨e, t | t⟩
   ·rw [(R.2.2.2 e).1] at t; cases t
   ·exact (R.2.2.2 e).2 t)]
  rw [X]
theorem aged_eq (x : Vl) (N : Int) (nm : LU) (v b : Int) (args : LF) : DZ x (.mk N nm v b args) = .mk N nm (agedV x N v ((args.map (Br x)).getD 0 false) (Br x (.mk N nm v b args))) 0 (args.map (DZ x)) := by rw [DZ, agedL_eq]
theorem agedV_keep (x : Vl) {N : Int} (v : Int) (a b : Bool) (h : ¬(N = 15 ∨ N = 16 ∨ N = 17)) : agedV x N v a b = v := by
 unfold agedV;rw [if_neg U, if_neg U]
theorem getD_map {α β : Type} (g : α → β) (l : List α) (i : Nat) (a : α) (b : β) (F : i < l.length) : (l.map g).getD i b = g (l.getD i a) := by
 simp [List.getD_eq_getElem?_getD, List.getElem?_eq_getElem F]
theorem isCon_iff {f : Fml} : CP f = true ↔ f.op = 1 ∨ f.op = 2 := by simp [CP]
theorem canonOp_8 (nm : LU) (v : Int) (l : LF) : BY 8 nm v l = if CP (l.getD 0 Ae) = true then l.getD 0 Ae else ⟨8, nm, v, 0, l⟩ := by
 unfold BY;rw [if_neg U, if_neg (show ¬((8 : Int) = 9 ∧ _) from fun q => absurd q.1 U), if_neg (show ¬((8 : Int) = 10 ∧ _) from fun q => absurd q.1 U)];simp
theorem canonOp_9 (nm : LU) (v : Int) (l : LF) : BY 9 nm v l = if CP (l.getD 1 Ae) = true ∨ (l.getD 0 Ae).op = 2 then l.getD 1 Ae else ⟨9, nm, v, 0, l⟩ := by
 unfold BY;rw [if_neg U, if_neg (show ¬((9 : Int) = 8 ∧ _) from fun q => absurd q.1 U), if_neg (show ¬((9 : Int) = 10 ∧ _) from fun q => absurd q.1 U)];simp
theorem canonOp_10 (nm : LU) (v : Int) (l : LF) : BY 10 nm v l = if CP (l.getD 1 Ae) = true ∨ (l.getD 0 Ae).op = 1 then l.getD 1 Ae else ⟨10, nm, v, 0, l⟩ := by
 unfold BY;rw [if_neg U, if_neg (show ¬((10 : Int) = 8 ∧ _) from fun q => absurd q.1 U), if_neg (show ¬((10 : Int) = 9 ∧ _) from fun q => absurd q.1 U)];simp
theorem canonOp_E {N : Int} (h : ¬(N = 5 ∨ N = 6)) (y : N ≠ 8) (a : N ≠ 9) (P : N ≠ 10) (nm : LU) (v : Int) (l : LF) : BY N nm v l = ⟨N, nm, v, 0, l⟩ := by
 unfold BY;rw [if_neg h, if_neg (fun q => y q.1), if_neg (fun q => a q.1), if_neg (fun q => P q.1)]
theorem raw_eq (x : Vl) (N : Int) (nm : LU) (v b : Int) (args : LF) : rawF x (.mk N nm v b args) = if Bs (.mk N nm v b args) then constF (Br x (.mk N nm v b args)) else rawOp N (DZ x (.mk N nm v b args)) (args.map (rawF x)) (args.map (DZ x)) := by rw [rawF, rawL_eq, agedL_eq]
end
mutual
def szF : Fml → Nat
 | .mk _ _ _ _ args => szL args + 1
def szL : LF → Nat
 | [] => 0
 | a :: l => szF a + szL l
end
theorem Bd (f : Fml) : szF f = szL f.args + 1 := by cases f; simp [szF, Fml.args]
theorem szF_pos (f : Fml) : 1 ≤ szF f := by rw [Bd]; omega
theorem Bv : ∀ l : LF, l.length ≤ szL l
 | [] => by simp
 | a :: l => by have := szF_pos a; have := Bv l; simp only [szL, List.length_cons]; omega
theorem Bq : ∀ {l : LF} {a : Fml}, a ∈ l → szF a ≤ szL l
 | c :: l, a, h => by
  simp only [szL];rcases List.mem_cons.1 h with rfl | h
  ·omega
  ·have := Bq h; omega
mutual
def dpF : Fml → Nat
 | .mk _ _ _ _ args => dpL args + 1
def dpL : LF → Nat
 | [] => 0
 | f :: l => max (dpF f) (dpL l)
end
theorem BP (f : Fml) : dpF f = dpL f.args + 1 := by cases f; simp [dpF, Fml.args]
theorem Ba : ∀ {l : LF} {a : Fml}, a ∈ l → dpF a ≤ dpL l
 | c :: l, a, h => by
  simp only [dpL];rcases List.mem_cons.1 h with rfl | h
  ·omega
  ·have := Ba h; omega
section
variable {mk : Prop} [MK mk]
theorem bareL_of {i : Bool} : ∀ {l : LF}, (∀ a ∈ l, BC i a = true) → bareL i l = true
 | [], _ => rfl
 | a :: l, h => by rw [bareL, h a O, bareL_of fun c T => h c Dw]; rfl
theorem Bz {N v b : Int} {nm : LU} {args : LF} {i : Bool} (h : BC i (.mk N nm v b args) = true) :
  looseO N = true ∧ Bp N nm v b args.length = true ∧ (i = true → futB N = false) ∧ ∀ a ∈ args, BC (i || pstB N) a = true := by
 simp only [BC, Bool.and_eq_true] at h;obtain ⟨⟨⟨⟨X, W⟩, R⟩, w⟩, P⟩ := h;refine ⟨X, W, fun e => ?_, fun a H => DK P H⟩;subst e;simpa using R
theorem bare_mk {N v b : Int} {nm : LU} {args : LF} {i : Bool} (X : looseO N = true) (W : Bp N nm v b args.length = true) (R : i = true → futB N = false) (w : N = 4 → ∀ a ∈ args, a.op = 3) (P : ∀ a ∈ args, BC (i || pstB N) a = true) :
  BC i (.mk N nm v b args) = true := by
 simp only [BC, Bool.and_eq_true];refine ⟨⟨⟨⟨X, W⟩, ?_⟩, ?_⟩, bareL_of P⟩
 ·cases i with
  | false => rfl
  | true => rw [R rfl]; rfl
 ·by_cases e : N = 4
  ·rw [if_pos e];subst e
   have M : args.length = 1 := by
    have := Bg W;simpa [Ar] using this
   obtain ⟨a, rfl⟩ := C7 M;exact decide_eq_true (w rfl a O)
  ·rw [if_neg e]
theorem bare_con {N : Int} (h : N = 1 ∨ N = 2) (i : Bool) : BC i (conO N) = true := by rcases h with rfl | rfl <;> cases i <;> rfl
theorem pst_56 {N : Int} (h : N = 5 ∨ N = 6) (i : Bool) : (i || pstB N) = i := by rcases h with rfl | rfl <;> cases i <;> rfl
theorem fl_bare {N : Int} (h : N = 5 ∨ N = 6) {c : Fml} {i : Bool} (T : BC i c = true) : ∀ a ∈ Fl N c, BC i a = true := by
 intro a H;unfold Fl at H;by_cases f : c.op = N
 ·rw [if_pos f] at H;obtain ⟨o, d, v, b, j⟩ := c;obtain rfl : o = N := f;have := (Bz T).2.2.2 a H
  rwa [pst_56 h] at this
 ·rw [if_neg f] at H
  split at H
  ·cases H
  ·have : a = c := by simpa using H
   subst this; exact T
theorem shaped_56 {N : Int} (h : N = 5 ∨ N = 6) {n : Nat} (G : 2 ≤ n) : Bp N [] 0 0 n = true := by
 unfold Bp Ar;rcases h with rfl | rfl <;> simp [G]
theorem join_bare {N : Int} (h : N = 5 ∨ N = 6) {i : Bool} {l : LF} (M : ∀ c ∈ l, BC i c = true) : BC i (Di N l) = true := by
 obtain ⟨f, j, F, b, g⟩ := uz_ne h;rw [joinM_eq h];cases zAny N l with
 | true => exact bare_con b i
 | false =>
  simp only [Bool.false_eq_true, if_false];rw [joinD_eq]
  have C : ∀ a ∈ dist (l.flatMap (Fl N)), BC i a = true := by
   intro a H;rw [mem_dist, List.mem_flatMap] at H;obtain ⟨c, T, H⟩ := H;exact fl_bare h (M c T) a H
  generalize dist (l.flatMap (Fl N)) = d at C;cases oppB d with
  | true => exact bare_con b i
  | false =>
   match d, C with
   | [], _ => exact bare_con g i
   | [a], C => exact C a O
   | a :: c :: d, C =>
    refine bare_mk ?_ (shaped_56 h O) ?_ (fun e => by omega) fun x V => by rw [pst_56 h]; exact C x V
    ·rcases h with rfl | rfl <;> rfl
    ·intro _; rcases h with rfl | rfl <;> rfl
theorem shaped_zero {N v b : Int} {nm : LU} {n : Nat} (h : Bp N nm v b n = true) : Bp N nm v 0 n = true := by
 simp only [Bp, Bool.and_eq_true, decide_eq_true_eq] at h ⊢;obtain ⟨⟨⟨q, E⟩, j⟩, S⟩ := h;refine ⟨⟨⟨q, by omega⟩, ?_⟩, S⟩
 split <;> omega
theorem bare_canon : ∀ {f : Fml} {i : Bool}, BC i f = true → BC i (Ao f) = true
 | .mk op nm v b args, i, h => by
  obtain ⟨X, W, R, w⟩ := Bz h;have q := Bj X;have p := sh_iff.1 (DL h);have H := Bg W;have o : ∀ a ∈ args, BC (i || pstB op) (Ao a) = true := fun a A => bare_canon (w a A);rw [canon_eq];by_cases j : op = 5 ∨ op = 6
  ·unfold BY;rw [if_pos j];refine join_bare j fun c T => ?_;obtain ⟨a, A, rfl⟩ := List.mem_map.1 T;have := o a A
   rwa [pst_56 j] at this
  have d : BC i (.mk op nm v 0 (args.map Ao)) = true := by
   refine bare_mk X (by rw [List.length_map]; exact shaped_zero W) R (fun e a A => ?_) fun a A => ?_
   ·obtain ⟨c, T, rfl⟩ := List.mem_map.1 A;exact canon_op3 (p.2.1.2.2.2.2 e c T)
   ·obtain ⟨c, T, rfl⟩ := List.mem_map.1 A;exact o c T
  have N : ∀ k, k < args.length → pstB op = false → BC i ((args.map Ao).getD k Ae) = true := fun k P m => by
   rw [getD_map Ao args k Ae Ae P]
   have A : args.getD k Ae ∈ args := by
    rw [List.getD_eq_getElem?_getD, List.getElem?_eq_getElem P]; exact List.getElem_mem P
   have := o _ A
   rwa [m, Bool.or_false] at this
  by_cases g : op = 8
  ·subst g;have M : args.length = 1 := by simpa [Ar] using H
   rw [canonOp_8]
   split
   ·exact N 0 U rfl
   ·exact d
  by_cases l : op = 9
  ·subst l;have M : args.length = 2 := by simpa [Ar] using H
   rw [canonOp_9]
   split
   ·exact N 1 U rfl
   ·exact d
  by_cases n : op = 10
  ·subst n;have M : args.length = 2 := by simpa [Ar] using H
   rw [canonOp_10]
   split
   ·exact N 1 U rfl
   ·exact d
  rw [canonOp_E j g l n];exact d
theorem dpL_le {n : Nat} : ∀ {l : LF}, dpL l ≤ n ↔ ∀ a ∈ l, dpF a ≤ n
 | [] => by simp [dpL]
 | a :: l => by rw [dpL, Nat.max_le, dpL_le]; simp
theorem szL_cat : ∀ l m : LF, szL (l ++ m) = szL l + szL m
 | [], m => by simp [szL]
 | a :: l, m => by rw [List.cons_append, szL, szL, szL_cat l m]; omega
theorem sz_ins (a : Fml) : ∀ l : LF, szL (insF a l) ≤ szF a + szL l
 | [] => by simp [insF, szL]
 | c :: l => by
  have := sz_ins a l;unfold insF
  split
  ·simp only [szL]; omega
  ·split
   ·simp only [szL]; omega
   ·simp only [szL]; omega
theorem sz_dist : ∀ l : LF, szL (dist l) ≤ szL l
 | [] => Nat.le_refl _
 | a :: l => by
  have X := sz_ins a (dist l);have W := sz_dist l;show szL (insF a (dist l)) ≤ szF a + szL l;omega
theorem sz_flat (N : Int) : ∀ l : LF, szL (l.flatMap (Fl N)) ≤ szL l
 | [] => Nat.le_refl _
 | a :: l => by
  have W := sz_flat N l;rw [List.flatMap_cons, szL_cat]
  have X : szL (Fl N a) ≤ szF a := by
   unfold Fl
   split
   ·rw [Bd]; omega
   ·split
    ·simp [szL]
    ·simp [szL]
  simp only [szL]; omega
theorem sz_join {N : Int} (h : N = 5 ∨ N = 6) (l : LF) : szF (Di N l) ≤ szL l + 1 := by
 rw [joinM_eq h];have X := sz_dist (l.flatMap (Fl N));have W := sz_flat N l;cases zAny N l with
 | true => simp [conO, szF, szL]
 | false =>
  simp only [Bool.false_eq_true, if_false];rw [joinD_eq];generalize dist (l.flatMap (Fl N)) = d at X;cases oppB d with
  | true => simp [conO, szF, szL]
  | false =>
   match d, X with
   | [], _ => simp [conO, szF, szL]
   | [a], X => simp only [szL] at X; simp only [Bool.false_eq_true, if_false]; omega
   | a :: c :: d, X => show szL (a :: c :: d) + 1 ≤ _; omega
theorem sz_getD {l : LF} {k : Nat} (h : k < l.length) : szF (l.getD k Ae) ≤ szL l := by
 rw [List.getD_eq_getElem?_getD, List.getElem?_eq_getElem h];exact Bq (List.getElem_mem h)
theorem canonOp_sz {N v : Int} {nm : LU} {l : LF} (H : Ar N l.length = true) : szF (BY N nm v l) ≤ szL l + 1 := by
 by_cases j : N = 5 ∨ N = 6
 ·unfold BY;rw [if_pos j]; exact sz_join j l
 have G : szF (.mk N nm v 0 l) ≤ szL l + 1 := Nat.le_refl _;by_cases a : N = 8
 ·subst a;have M : l.length = 1 := by simpa [Ar] using H
  have := @sz_getD l 0 U;rw [canonOp_8]; split
  ·omega
  ·exact G
 by_cases b : N = 9
 ·subst b;have M : l.length = 2 := by simpa [Ar] using H
  have := @sz_getD l 1 U;rw [canonOp_9]; split
  ·omega
  ·exact G
 by_cases n : N = 10
 ·subst n;have M : l.length = 2 := by simpa [Ar] using H
  have := @sz_getD l 1 U;rw [canonOp_10]; split
  ·omega
  ·exact G
 rw [canonOp_E j a b n]; exact G
theorem szL_map (g : Fml → Fml) : ∀ l : LF, (∀ a ∈ l, szF (g a) ≤ szF a) → szL (l.map g) ≤ szL l
 | [], _ => Nat.le_refl _
 | a :: l, h => by
  have X := h a O;have W := szL_map g l fun c T => h c Dw;simp only [List.map_cons, szL]; omega
theorem canon_sz : ∀ {f : Fml}, Sh f → szF (Ao f) ≤ szF f
 | .mk op nm v b args, h => by
  obtain ⟨_, W, R⟩ := sh_iff.1 h;rw [canon_eq];refine Nat.le_trans (canonOp_sz (by rw [List.length_map]; exact W.2.1)) ?_;have := szL_map Ao args fun a H => canon_sz (R a H);show _ ≤ szL args + 1;omega
theorem aged_sz (x : Vl) : ∀ f : Fml, szF (DZ x f) = szF f
 | .mk op nm v b args => by
  rw [aged_eq]
  have : ∀ l : LF, (∀ a ∈ l, szF (DZ x a) = szF a) → szL (l.map (DZ x)) = szL l := by
   intro l
   induction l with
   | nil => intro _; rfl
   | cons a l ih => intro M; rw [List.map_cons, szL, szL, M a O, ih fun c T => M c Dw]
  show szL (args.map (DZ x)) + 1 = szL args + 1;rw [this args fun a _ => aged_sz x a]
theorem dp_sz : ∀ f : Fml, dpF f ≤ szF f
 | .mk op nm v b args => by
  have : dpL args ≤ szL args := dpL_le.2 fun a H => Nat.le_trans (dp_sz a) (Bq H);show dpL args + 1 ≤ szL args + 1;omega
mutual
def isB (k : LU → Int → Bool) : Fml → Bool
 | .mk op nm v _ args => (if op = 3 then k nm v else true) && isL k args
def isL (k : LU → Int → Bool) : LF → Bool
 | [] => true
 | a :: l => isB k a && isL k l
end
theorem isL_iff {k : LU → Int → Bool} : ∀ {l : LF}, isL k l = true ↔ ∀ a ∈ l, isB k a = true
 | [] => by simp [isL]
 | a :: l => by rw [isL, Bool.and_eq_true, isL_iff]; simp
theorem is_iff {k : LU → Int → Bool} {N v b : Int} {nm : LU} {args : LF} : isB k (.mk N nm v b args) = true ↔ (N = 3 → k nm v = true) ∧ ∀ a ∈ args, isB k a = true := by
 rw [isB, Bool.and_eq_true, isL_iff];by_cases h : N = 3
 ·rw [if_pos h]; simp [h]
 ·rw [if_neg h]; simp [h]
theorem is_con (k : LU → Int → Bool) {N : Int} (h : N = 1 ∨ N = 2) : isB k (conO N) = true := by rcases h with rfl | rfl <;> rfl
theorem is_join {k : LU → Int → Bool} {N : Int} (h : N = 5 ∨ N = 6) {l : LF} (M : ∀ c ∈ l, isB k c = true) : isB k (Di N l) = true := by
 obtain ⟨f, i, F, g, m⟩ := uz_ne h;rw [joinM_eq h];cases zAny N l with
 | true => exact is_con k g
 | false =>
  simp only [Bool.false_eq_true, if_false];rw [joinD_eq]
  have C : ∀ a ∈ dist (l.flatMap (Fl N)), isB k a = true := by
   intro a H;rw [mem_dist, List.mem_flatMap] at H;obtain ⟨c, T, H⟩ := H;have p := M c T;unfold Fl at H
   split at H
   ·obtain ⟨o, n, v, b, j⟩ := c;exact (is_iff.1 p).2 a H
   ·split at H
    ·cases H
    ·have : a = c := by simpa using H
     subst this; exact p
  generalize dist (l.flatMap (Fl N)) = d at C;cases oppB d with
  | true => exact is_con k g
  | false =>
   match d, C with
   | [], _ => exact is_con k m
   | [a], C => exact C a O
   | a :: c :: d, C => exact is_iff.2 ⟨fun e => by omega, C⟩
theorem is_canon {k : LU → Int → Bool} : ∀ {f : Fml}, Sh f → isB k f = true → isB k (Ao f) = true
 | .mk op nm v b args, h, hk => by
  obtain ⟨_, W, R⟩ := sh_iff.1 h;obtain ⟨g, l⟩ := is_iff.1 hk
  have o : ∀ a ∈ args.map Ao, isB k a = true := fun a H => by
   obtain ⟨c, T, rfl⟩ := List.mem_map.1 H;exact is_canon (R c T) (l c T)
  rw [canon_eq];by_cases j : op = 5 ∨ op = 6
  ·unfold BY;rw [if_pos j]; exact is_join j o
  have G : isB k (.mk op nm v 0 (args.map Ao)) = true := is_iff.2 ⟨g, o⟩
  have z : ∀ i, i < args.length → isB k ((args.map Ao).getD i Ae) = true := fun i F => by
   have X : i < (args.map Ao).length := by rw [List.length_map]; exact F
   rw [List.getD_eq_getElem?_getD, List.getElem?_eq_getElem X];exact o _ (List.getElem_mem X)
  have H := W.2.1;by_cases d : op = 8
  ·subst d;have M : args.length = 1 := by simpa [Ar] using H
   rw [canonOp_8]; split
   ·exact z 0 U
   ·exact G
  by_cases e : op = 9
  ·subst e;have M : args.length = 2 := by simpa [Ar] using H
   rw [canonOp_9]; split
   ·exact z 1 U
   ·exact G
  by_cases n : op = 10
  ·subst n;have M : args.length = 2 := by simpa [Ar] using H
   rw [canonOp_10]; split
   ·exact z 1 U
   ·exact G
  rw [canonOp_E j d e n]; exact G
theorem is_aged {k : LU → Int → Bool} (x : Vl) : ∀ {f : Fml}, isB k f = true → isB k (DZ x f) = true
 | .mk op nm v b args, hk => by
  obtain ⟨X, l⟩ := is_iff.1 hk;rw [aged_eq];refine is_iff.2 ⟨fun e => ?_, fun a H => ?_⟩
  ·rw [agedV_keep x v _ _ U]; exact X e
  ·obtain ⟨c, T, rfl⟩ := List.mem_map.1 H;exact is_aged x (l c T)
def semJ (s : Wd) (N : Int) (l : LF) (t : Nat) : Prop := if N = 5 then ∀ a ∈ l, sem s a t else ∃ a ∈ l, sem s a t
theorem sem_56 {N : Int} (h : N = 5 ∨ N = 6) (s : Wd) (nm : LU) (v b : Int) (l : LF) (t : Nat) : sem s (.mk N nm v b l) t ↔ semJ s N l t := by
 rw [sem_eq];simp only [Fml.op, Fml.name, Fml.val, Fml.bound, Fml.args];rcases h with rfl | rfl
 ·simp [opS, opP, semJ]
 ·have e : semJ s 6 l t ↔ ∃ a ∈ l, sem s a t := by unfold semJ; rw [if_neg Dt]
  rw [e];simp only [opS, opP];simp;exact ⟨fun ⟨_, ⟨a, ha, e⟩, h⟩ => ⟨a, ha, by rw [e]; exact h⟩, fun ⟨a, ha, h⟩ => ⟨_, ⟨a, ha, rfl⟩, h⟩⟩
theorem sem_unit {N : Int} (h : N = 5 ∨ N = 6) (s : Wd) (t : Nat) : sem s (conO (Ct N)) t ↔ N = 5 := by
 rcases h with rfl | rfl <;> simp [conO, Ct, sem, opS, opP]
theorem sem_zero {N : Int} (h : N = 5 ∨ N = 6) (s : Wd) (t : Nat) : sem s (conO (CV N)) t ↔ N = 6 := by
 rcases h with rfl | rfl <;> simp [conO, CV, sem, opS, opP]
theorem semJ_nil {N : Int} (h : N = 5 ∨ N = 6) (s : Wd) (t : Nat) : semJ s N [] t ↔ N = 5 := by
 rcases h with rfl | rfl <;> simp [semJ]
theorem semJ_one {N : Int} (s : Wd) (a : Fml) (t : Nat) : semJ s N [a] t ↔ sem s a t := by
 unfold semJ; split <;> simp
theorem semJ_ext {N : Int} (s : Wd) {l m : LF} (t : Nat) (h : ∀ x, x ∈ l ↔ x ∈ m) : semJ s N l t ↔ semJ s N m t := by
 unfold semJ
 split
 ·exact ⟨fun k a H => k a ((h a).2 H), fun k a H => k a ((h a).1 H)⟩
 ·exact ⟨fun ⟨a, H, k⟩ => ⟨a, (h a).1 H, k⟩, fun ⟨a, H, k⟩ => ⟨a, (h a).2 H, k⟩⟩
theorem semJ_flat {N : Int} (s : Wd) {l : LF} (g : Fml → LF) (t : Nat) (h : ∀ c ∈ l, (semJ s N (g c) t ↔ sem s c t)) : semJ s N (l.flatMap g) t ↔ semJ s N l t := by
 unfold semJ at *
 split
 ·rename_i h5;simp only [if_pos h5] at h
  exact ⟨fun k c T => (h c T).1 fun a H => k a (List.mem_flatMap.2 ⟨c, T, H⟩), fun k a H => by
   obtain ⟨c, T, H⟩ := List.mem_flatMap.1 H;exact (h c T).2 (k c T) a H⟩
 ·rename_i h5;simp only [if_neg h5] at h
  exact ⟨fun ⟨a, H, k⟩ => by
   obtain ⟨c, T, H⟩ := List.mem_flatMap.1 H;exact ⟨c, T, (h c T).1 ⟨a, H, k⟩⟩, fun ⟨c, T, k⟩ => by
   obtain ⟨a, H, k⟩ := (h c T).2 k;exact ⟨a, List.mem_flatMap.2 ⟨c, T, H⟩, k⟩⟩
theorem fl_sem {N : Int} (h : N = 5 ∨ N = 6) (s : Wd) (t : Nat) {c : Fml} (T : Sh c) : semJ s N (Fl N c) t ↔ sem s c t := by
 unfold Fl;by_cases X : c.op = N
 ·rw [if_pos X];obtain ⟨o, a, v, b, l⟩ := c;have X : o = N := X;subst X;exact (sem_56 h s a v b l t).symm
 rw [if_neg X];by_cases W : c.op = Ct N
 ·rw [if_pos W, semJ_nil h];have r : c.op = 1 ∨ c.op = 2 := by rw [W]; exact (uz_ne h).2.2.2.2
  rw [sh_con T r, W];exact (sem_unit h s t).symm
 rw [if_neg W];exact semJ_one s c t
theorem fl_sh {N : Int} {c : Fml} (T : Sh c) : ∀ a ∈ Fl N c, Sh a := by
 intro a H;unfold Fl at H
 split at H
 ·exact (sh_eq T).2.2 a H
 ·split at H
  ·cases H
  ·simp at H; rw [H]; exact T
theorem sem_not {f : Fml} (I : Sh f) (w : f.op = 4) (s : Wd) (t : Nat) : sem s f t ↔ ¬ sem s (f.args.getD 0 Ae) t := by
 obtain ⟨N, o, v, b, l⟩ := f;have w : N = 4 := w;subst w;obtain ⟨_, ⟨_, H, _⟩, _⟩ := sh_iff.1 I;have M : l.length = 1 := by simpa [Ar] using H
 obtain ⟨a, rfl⟩ := C7 M;simp [sem, semL, opS, opP, Fml.args]
theorem join_sem {N : Int} (h : N = 5 ∨ N = 6) (s : Wd) {ps : LF} (v : ∀ c ∈ ps, Sh c) (t : Nat) : sem s (Di N ps) t ↔ semJ s N ps t := by
 rw [joinM_eq h];cases hz : zAny N ps with
 | true =>
  rw [if_pos rfl, sem_zero h];obtain ⟨c, T, f⟩ := zAny_true.1 hz;have r : c.op = 1 ∨ c.op = 2 := by rw [f]; exact (uz_ne h).2.2.2.1
  have D : sem s c t ↔ N = 6 := by rw [sh_con (v c T) r, f]; exact sem_zero h s t
  unfold semJ;rcases h with rfl | rfl
  ·rw [if_pos rfl];exact ⟨fun e => absurd e Dt, fun k => D.1 (k c T)⟩
  ·rw [if_neg Dt];exact ⟨fun e => ⟨c, T, D.2 e⟩, fun _ => rfl⟩
 | false =>
  rw [if_neg Bool.false_ne_true, ← semJ_flat s (Fl N) t fun c T => fl_sem h s t (v c T), ← semJ_ext s t fun x => (mem_dist (l := ps.flatMap (Fl N)) (x := x))]
  have C : ∀ a ∈ dist (ps.flatMap (Fl N)), Sh a := fun a H => by
   obtain ⟨c, T, H⟩ := List.mem_flatMap.1 (mem_dist.1 H);exact fl_sh (v c T) a H
  generalize dist (ps.flatMap (Fl N)) = d at C;rw [joinD_eq];by_cases f : oppB d = true
  ·rw [if_pos f, sem_zero h];obtain ⟨x, V, w, K⟩ := opp_iff.1 f;have G := sem_not (C x V) w s t;unfold semJ;rcases h with rfl | rfl
   ·rw [if_pos rfl];exact ⟨fun e => absurd e Dt, fun k => absurd (k _ K) (G.1 (k x V))⟩
   ·rw [if_neg Dt];refine ⟨fun _ => ?_, fun _ => rfl⟩;by_cases q : sem s (x.args.getD 0 Ae) t
    ·exact ⟨_, K, q⟩
    ·exact ⟨x, V, G.2 q⟩
  ·rw [if_neg f]
   match d with
   | [] => rw [semJ_nil h]; exact sem_unit h s t
   | [a] => exact (semJ_one s a t).symm
   | a :: c :: d => exact sem_56 h s [] 0 0 _ t
theorem con_sem {f : Fml} (I : Sh f) (T : CP f = true) (s : Wd) : (∀ t, sem s f t) ∨ ∀ t, ¬ sem s f t := by
 have a := isCon_iff.1 T;rw [sh_con I a];rcases a with h | h <;> rw [h]
 ·exact .inl fun t => by simp [conO, sem, opS, opP]
 ·exact .inr fun t => by simp [conO, sem, opS, opP]
theorem sem_mk (s : Wd) (N v b : Int) (nm : LU) (l : LF) : sem s (.mk N nm v b l) = opS s N nm v b (l.map (sem s)) := sem_eq s _
theorem canon_sem (s : Wd) : ∀ {f : Fml}, Sh f → ∀ t, sem s (Ao f) t ↔ sem s f t
 | .mk op nm v b args, hf, t => by
  obtain ⟨S, m, K⟩ := sh_iff.1 hf
  have A : (args.map Ao).map (sem s) = args.map (sem s) := by
   rw [List.map_map];refine List.map_congr_left fun a H => ?_
   funext t
   exact propext (canon_sem s (K a H) t)
  have T : ∀ a ∈ args.map Ao, Sh a := fun a H => by
   obtain ⟨c, T, rfl⟩ := List.mem_map.1 H;exact cf_sh (canon_cf (K c T))
  have D : sem s (.mk op nm v b args) = sem s (.mk op nm v 0 (args.map Ao)) := by rw [sem_mk, sem_mk, A, S]
  rw [D, canon_eq];have w : (args.map Ao).length = args.length := by simp
  obtain ⟨X, H, _⟩ := m;rw [← w] at H;generalize args.map Ao = l at T H;by_cases d : op = 5 ∨ op = 6
  ·rw [sem_56 d];unfold BY;rw [if_pos d];exact join_sem d s T t
  by_cases y : op = 8
  ·subst y;obtain ⟨c, rfl⟩ := C7 (l := l) Ds;rw [canonOp_8];by_cases P : CP c = true
   ·rw [if_pos (by simpa using P)];rw [sem_mk];simp only [List.getD_cons_zero, List.map_cons, List.map_nil];simp only [opS, opP];rcases con_sem (T c O) P s with k | k <;> simp [k]
   ·rw [if_neg (by simpa using P)]
  by_cases j : op = 9
  ·subst j;obtain ⟨p, q, rfl⟩ := CZ (l := l) Ds;rw [canonOp_9];simp only [List.getD_cons_zero, List.getD_cons_succ];by_cases P : CP q = true ∨ p.op = 2
   ·rw [if_pos P, sem_mk];have e : opS s 9 nm v 0 ([p, q].map (sem s)) = CT (sem s p) (sem s q) := by simp [opS, opP]
    rw [e, until_step];rcases P with P | P
    ·rcases con_sem (T q O) P s with k | k
     ·simp [k]
     ·simp only [k, false_or, false_iff];rintro ⟨_, x, _, V, _⟩;exact k x V
    ·have h : ¬ sem s p t := by
      rw [sh_con (T p O) (.inr P), P];simp [conO, sem, opS, opP]
     simp [h]
   ·rw [if_neg P]
  by_cases i : op = 10
  ·subst i;obtain ⟨p, q, rfl⟩ := CZ (l := l) Ds;rw [canonOp_10];simp only [List.getD_cons_zero, List.getD_cons_succ];by_cases P : CP q = true ∨ p.op = 1
   ·rw [if_pos P, sem_mk];have e : opS s 10 nm v 0 ([p, q].map (sem s)) = relS (sem s p) (sem s q) := by simp [opS, opP]
    rw [e, rel_step];rcases P with P | P
    ·rcases con_sem (T q O) P s with k | k
     ·simp only [k, true_and, true_iff];exact .inr fun x _ => .inl (k x)
     ·simp [k]
    ·have g : sem s p t := by
      rw [sh_con (T p O) (.inl P), P];simp [conO, sem, opS, opP]
     simp [g]
   ·rw [if_neg P]
  rw [canonOp_E d y j i]
theorem Cs {w : World} {B e size n : Nat} {v : Value} {xs : LV} (h : w.ownsRow B e size v n xs) : v.oneCell' = true := by
 rcases h.2 with ⟨rfl, _⟩ | ⟨g, x, o, rfl, _⟩ <;> rfl
structure Bld (w W : World) (c : Nat) (op : Int) (nm : LU) (val bd : Int) (l : LF) (v : Value) (L : List (LV)) : Prop where
 D : Blk W c 36 [iV op, AI nm, iV val, iV bd, v]
 own : W.ownsRow w.heap.size 36 5 v l.length L.flatten
 fs : FsAt (fun b => (w.heap.size ≤ b ∧ b ≠ c) ∧ v.ownBlock ≠ some b) W L l
 ne : ∀ g, v.ownBlock = some g → g ≠ c
theorem Bld.ext {w W x : World} {c : Nat} {N R d : Int} {nm : LU} {l : LF} {v : Value} {L : List (LV)} (h : Bld w W c N nm R d l v L) (k : Ext W x) : Bld w x c N nm R d l v L :=
 ⟨h.D.E k O, Aa h.own k, h.fs.ext k, h.ne⟩
theorem Bld.start {w W : World} {c : Nat} {N R d : Int} {nm : LU} (h : Blk W c 36 [iV N, AI nm, iV R, iV d, .slice none 0 0]) : Bld w W c N nm R d [] (.slice none 0 0) [] :=
 ⟨h, ⟨rfl, .inl ⟨rfl, rfl⟩⟩, FsAt.nil _ _, fun g z => by cases z⟩
theorem Bld.fin {w W : World} {c : Nat} {N R d : Int} {nm : LU} {l : LF} {v : Value} {L : List (LV)} (h : Bld w W c N nm R d l v L) : FAt (fun b => w.heap.size ≤ b ∧ b ≠ c) W (.agg #[iV N, AI nm, iV R, iV d, v]) ⟨N, nm, R, d, l⟩ :=
 FAt.node N nm R d (AV h.own fun g z => ⟨(Ab h.own z).1, h.ne g z⟩) (h.fs.mono fun b S => S.1)
theorem Bld.push {w W W1 k D : World} {c B : Nat} {N R d : Int} {nm : LU} {l : LF} {v i : Value} {L : List (LV)} {e T : TypeId} {cs : LV} {g : Fml} (h : Bld w W c N nm R d l v L) (t : w.heap.size ≤ c ∧ c < B) (q : ∀ g, v.ownBlock = some g → g < B) (f : w.heap.size ≤ B) (s : B ≤ W.heap.size)
  (I : FAt (fun b => B ≤ b) W (.agg cs.toArray) g) (A : cs.length = 5) (n : New W W1 e cs) (a : Apd W1 k w.heap.size 36 5 v i (l.length + 1) (L.flatten ++ cs))
  (p : Put k D c T [iV N, AI nm, iV R, iV d, i]) (C : T = 36) : Bld w D c N nm R d (l ++ [g]) i (L ++ [cs]) ∧ Keep (c :: v.ownBlock.toList) W D := by
 subst C;have u := n.size
 have j : ∀ b, i.ownBlock = some b → v.ownBlock = some b ∨ b = W1.heap.size := fun b S => by
  rcases a.D with e | e
  ·exact .inl EE
  ·rw [e] at S; exact .inr (Option.some.inj S).symm
 have o : ∀ b, i.ownBlock = some b → b ≠ c := fun b S => by
  rcases j b S with e | e
  ·exact h.ne b e
  ·omega
 have m : ∀ {b}, b ∈ v.ownBlock.toList → v.ownBlock = some b := fun V => Option.mem_toList.1 V;refine ⟨⟨p.D, ?_, FsAt.snoc ?_ ?_ A, o⟩, ?_⟩
 ·have := Ad a.own p.E (fun b S => by simpa using o b S);rw [List.length_append, List.flatten_append];simpa using this
 ·refine ((((h.fs.lt).ext n.E).E a.E ?_).E p.E ?_).mono ?_
  ·rintro b ⟨⟨_, S⟩, _⟩ V; exact S (m V)
  ·rintro b ⟨⟨⟨_, S⟩, _⟩, _⟩; simpa using S
  ·rintro b ⟨⟨⟨X, r⟩, S⟩, y⟩;refine ⟨⟨X, r⟩, fun e => ?_⟩;rcases j b e with e | e
   ·exact S e
   ·omega
 ·refine ((((I.lt).ext n.E).E a.E ?_).E p.E ?_).mono ?_
  ·rintro b ⟨X, _⟩ V; have := q b (m V); omega
  ·rintro b ⟨X, _⟩; simp; omega
  ·rintro b ⟨X, y⟩;refine ⟨⟨by omega, by omega⟩, fun e => ?_⟩;rcases j b e with e | e
   ·have := q b e; omega
   ·omega
 ·refine ((n.E.any.trans a.E ?_).trans p.E ?_)
  ·intro x V _; exact List.mem_cons_of_mem _ V
  ·intro x V _; simp at V; subst V; exact List.mem_cons_self ..
end
end Go.Proofs.YtohodbnnhlddpaaGreatDoor
