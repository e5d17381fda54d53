/- TopGoalsGoOn, part 10 of 16: rules, lemmas, walks. Conditions: none. -/
import Derived.Test.YtohodbnnhlddpaaGreatDoorQZ9
import Derived.Maps.RangeRun
namespace Go.Proofs.YtohodbnnhlddpaaGreatDoor
open Go.RowKit
set_option linter.unusedVariables false
section
variable {mk : Prop} [MK mk]
theorem past_of_pst {N v b : Int} {nm : LU} {args : LF} {i : Bool} (h : BC i (.mk N nm v b args) = true) (c : N = 15 ∨ N = 16 ∨ N = 17) : Bs (.mk N nm v b args) = true := by
 obtain ⟨_, _, _, w⟩ := Bz h;have e : (i || pstB N) = true := by rcases c with rfl | rfl | rfl <;> cases i <;> rfl
 rw [e] at w;rw [Bs, pastL_of fun a H => DP a (w a H)];rcases c with rfl | rfl | rfl <;> rfl
theorem raged_ok (w0 : World) (r : Nat) (S : List Sgn) (x : Int) (hR : Rdr w0 r S x) : ∀ (n : Nat) (w : World) (b o : Nat) (f : Fml) (i : Bool), dpF f ≤ n → szF f ≤ 1000 → Ext w0 w → PF AZ w b o f → BC i f = true → isB (knS S) f = true →
  Fn Zp 190 [pt r, .pointer (some ⟨b, o, none⟩)] w fun u w' => Ext w w' ∧ FAt (fun b => w.heap.size ≤ b) w' u (DZ (vlS S x) f) := by
 have c2 := rnow_ok w0 r S x hR;obtain ⟨X, hX⟩ : ∃ X, X = vlS S x := ⟨_, rfl⟩;rw [← hX] at c2 ⊢;intro n
 induction n with
 | zero => intro w b o f i hd; rw [BP] at hd; omega
 | succ n ih =>
 intro w b o f i hd hz e0 hf hb hk;have e2 : dpF f ≤ n + 1 := hd;have e9 := @past_of_pst;have f6 := hf;have c6 := hb;have e6 := hk;obtain ⟨C, E, Z, bd, j⟩ := f;obtain ⟨f9, f0, _, b6⟩ := Bz hb;have d8 := Bg f0;obtain ⟨f7, c1⟩ := is_iff.1 hk;have hla := Bv j;rw [BP] at hd;rw [Bd] at hz;simp only [Fml.args] at hd hz;rw [aged_eq];refine AG Tryz.func190 rfl Tryz.ntmps190 (go ?_);refine AQ (fun w1 n1 => go ?_);have z1 := n1.size;have c9 := hf.E n1.E (fun _ _ => by simp);obtain ⟨aa, cc, _, q0, q1, q2, q3, q4, _⟩ := c9.all;refine AW (rd 0 13 (.alt 13 (.alt 14 .done .stop) .stop)) Al Dk (fun m N ed => ⟨Ext m, ?_, ?_⟩)
 ·exact EZ
 have s0 : ∀ V, Ext m V → V.cell? ⟨b, o + 0, none⟩ = some (iV C) := fun V e => (N.trans e).cell q0 O;have s1 : ∀ V, Ext m V → V.cell? ⟨b, o + 1, none⟩ = some (AI E) := fun V e => (N.trans e).cell q1 O;have s2 : ∀ V, Ext m V → V.cell? ⟨b, o + 2, none⟩ = some (iV Z) := fun V e => (N.trans e).cell q2 O;(refine D_R rfl rfl (fun W z => Ag rfl Z3) (D_R rfl rfl (fun W z => AK rfl Z3) (D_R rfl rfl (fun W z => AF rfl Z3) (D_R rfl rfl (fun W z => AM rfl (s0 W z) Z3) (D_R rfl rfl (fun W z => Ag rfl Z3) (D_R rfl rfl (fun W z => AK rfl Z3) (D_R rfl rfl (fun W z => AF rfl Z3) (D_R rfl rfl (fun W z => AM rfl (s1 W z) Z3) (D_R rfl rfl (fun W z => Ag rfl Z3) (D_R rfl rfl (fun W z => AK rfl Z3) (D_R rfl rfl (fun W z => AF rfl Z3) (D_R rfl rfl (fun W z => AM rfl (s2 W z) Z3) ?_))))))))))) <;> (apply D_R rfl rfl; (intro W z; refine Bo Dn Dn ?_; exact Z3)))
 refine D_E rfl ?_;refine AQ (L := zero5) (fun w2 n2 => ?_);refine AH ⟨Ext m, fun _ e => e, n2.E, ?_⟩;refine D_E rfl ?_;refine AE (cs := [iV C, AI E, iV Z, iV 0, .slice none 0 0]) rfl rfl rfl (AU rfl) n2.D Dp (fun w3 p3 => ?_);refine AH ⟨Ext m, fun _ e => e, n2.E.E p3.E O, ?_⟩;refine Cb ?_;clear s0 s1 s2 q0 q1 q2 q3 q4;have z2 := n2.size;have z3 := p3.size;have zd := N.size;have b3 : Blk w3 m.heap.size 36 [iV C, AI E, iV Z, iV 0, .slice none 0 0] := p3.D;have d3 : Ext m w3 := n2.E.E p3.E O;have c3 : Ext w1 w3 := N.trans d3;have I : Ext w w3 := n1.E.trans c3;have b4 : Blk w3 w.heap.size 36 zero5 := n1.D.E c3 O;have a9 := hf.E I (fun _ _ => by simp);have d0 := hf;have q0 := a9.opc;obtain ⟨f1, f2, _, d4, b9⟩ := a9.arg;simp only [Fml.op, Fml.args] at q0 d4 b9;obtain ⟨T, d9⟩ : ∃ T, T = m.heap.size := ⟨_, rfl⟩;rw [← d9] at b3 ⊢;have hc5w : w1.heap.size ≤ T := by omega
 have hc5l : T < w3.heap.size := b3.lt;clear c9 n2 p3 d3 c3 n1;obtain ⟨D, a7⟩ : ∃ D, D = agedV X C Z ((j.map (Br X)).getD 0 false) (Br X (.mk C E Z bd j)) := ⟨_, rfl⟩;rw [← a7];repeat refine nx rfl ?_
 refine AJ (Ac (AP rfl ?_));repeat refine nx rfl ?_
 (refine AJ (Ag rfl (AK rfl (AF rfl (AM rfl Do ?_)))) <;> refine AH ?_)
 refine Q_then ?_;refine C_mid (α := Bool × Int) (fun y => [(0, pt r), (1, .pointer (some ⟨b, o, none⟩)), (4, pt w.heap.size), (5, pt T), (6, .bool y.1)]) (fun y W => Ext w W ∧ (if y.1 then 1 else y.2) = D ∧ Blk W T 36 [iV C, AI E, iV y.2, iV 0, .slice none 0 0] ∧ Blk W w.heap.size 36 zero5) ?_ ?_
 ·by_cases c5 : C = 15
  ·subst c5;have e7 : j.length = 1 := by simpa [Ar] using d8
   obtain ⟨a, ha⟩ := C7 e7;have ham : a ∈ j := by rw [ha]; simp
   obtain ⟨H, o', rfl, e5⟩ := b9 0 a (by rw [ha]; rfl);have b7 := b6 a ham;simp only [show ∀ i, (i || pstB 15) = true from fun i => by cases i <;> rfl] at b7;refine go ?_;refine AC (c2 n w3 H _ a true (by have := Ba ham; omega) (e0.trans I) e5 b7 (DP a b7) (c1 a ham)) rfl ?_;rintro _ w4 ⟨rfl, R⟩;refine go ?_;refine AN (v := iV 0) rfl rfl rfl (b3.E R O) O (fun w5 A => go ?_);exact Aw (Br X a, 0) ⟨rfl, rfl, rfl, rfl, rfl, trivial⟩ ⟨(I.trans R).E A.E Dl, by rw [a7, ha]; rfl, A.D, (b4.E R O).E A.E Dl⟩
  ·by_cases h67 : C = 16 ∨ C = 17
   ·have c7 := c2 (n + 1) w3 b o (.mk C E Z bd j) i e2 (e0.trans I) a9 c6 (e9 c6 (.inr h67)) e6;have a8 : D = bitI (Br X (.mk C E Z bd j)) := by rw [a7]; unfold agedV; rw [if_neg c5, if_pos h67]
    refine go ?_;rcases h67 with rfl | rfl
    ·refine go ?_;refine AC c7 rfl ?_;rintro _ w4 ⟨rfl, R⟩;refine go ?_;refine AN (v := iV 0) rfl rfl rfl (b3.E R O) O (fun w5 A => go ?_);exact Aw (Br X (.mk 16 E Z bd j), 0) ⟨rfl, rfl, rfl, rfl, rfl, trivial⟩ ⟨(I.trans R).E A.E Dl, a8.symm, A.D, (b4.E R O).E A.E Dl⟩
    ·refine go ?_;refine AC c7 rfl ?_;rintro _ w4 ⟨rfl, R⟩;refine go ?_;refine AN (v := iV 0) rfl rfl rfl (b3.E R O) O (fun w5 A => go ?_);exact Aw (Br X (.mk 17 E Z bd j), 0) ⟨rfl, rfl, rfl, rfl, rfl, trivial⟩ ⟨(I.trans R).E A.E Dl, a8.symm, A.D, (b4.E R O).E A.E Dl⟩
   ·have a8 : D = Z := by rw [a7]; exact agedV_keep X _ _ _ U
    refine go ?_;exact Aw (false, Z) ⟨rfl, rfl, rfl, rfl, rfl, trivial⟩ ⟨I, a8.symm, b3, b4⟩
 rintro ⟨hh, y⟩ W3 f3 ⟨b2, b1, a5, c4⟩;simp only at b1 a5;repeat refine nx rfl ?_
 refine AJ (AP rfl (AH ?_));refine Q_then ?_;refine C_mid (α := Unit) (fun _ => [(0, pt r), (1, .pointer (some ⟨b, o, none⟩)), (4, pt w.heap.size), (5, pt T)]) (fun _ W => Ext w W ∧ Blk W T 36 [iV C, AI E, iV D, iV 0, .slice none 0 0] ∧ Blk W w.heap.size 36 zero5) ?_ ?_
 ·cases hh with
  | true =>
   refine go ?_;refine AN (v := iV 1) rfl rfl rfl a5 O (fun w5 A => go ?_);refine Aw () ⟨rfl, rfl, rfl, rfl, trivial⟩ ⟨b2.E A.E Dl, ?_, c4.E A.E Dl⟩;rw [← b1]; exact A.D
  | false =>
   refine go ?_;refine Aw () ⟨rfl, rfl, rfl, rfl, trivial⟩ ⟨b2, ?_, c4⟩;rw [← b1]; exact a5
 rintro _ W4 f4 ⟨R, b5, d7⟩;clear b3 b4 q0 a9 I hc5l b2 a5 c4 b1 b9 d4;have e3 := d0.E R (fun _ _ => by simp);obtain ⟨aa, cc, _, a2, _⟩ := e3.arg;simp only [Fml.args] at a2;refine go ?_
 refine Ah (α := Nat × Value × List (LV)) (fun x => [(0, pt r), (1, .pointer (some ⟨b, o, none⟩)), (4, pt w.heap.size), (5, pt T), (48, iV (j.length : Int)), (49, iV (x.1 : Int))])
  (fun x W => x.1 ≤ j.length ∧ Ext w W ∧ Bld w1 W T C E D 0 ((j.take x.1).map (DZ X)) x.2.1 x.2.2 ∧ Blk W w.heap.size 36 zero5 ∧ T < W.heap.size) (fun x => j.length - x.1) (0, .slice none 0 0, []) ⟨rfl, rfl, rfl, rfl, rfl, rfl, trivial⟩ ⟨by simp, R, by simpa using Bld.start b5, d7, b5.lt⟩ ?_
 rintro ⟨k, v, L⟩ W fr ⟨hk, M, G, bz, e1⟩;simp only at hk M G bz e1;refine go ?_;by_cases e8 : k < j.length
 ·refine go ?_;obtain ⟨x, c⟩ : ∃ x, j[k]? = some x := ⟨_, List.getElem?_eq_getElem e8⟩;have e4 := d0.E M (fun _ _ => by simp);obtain ⟨aa, cc, _, a2, c8⟩ := e4.arg;simp only [Fml.args] at a2 c8;obtain ⟨H, o', rfl, d1⟩ := c8 k x c;refine AW (.read 0 (rd 2 7 (.alt 1 (.alt 9 (.alt 10 (.alt 11 (.read 12 (.alt 13 .done .stop)) .stop) .stop) .stop) (.alt 9 (.alt 1 (.alt 10 (.alt 11 (.read 12 (.alt 13 .done .stop)) .stop) .stop) (.alt 10 (.alt 1 (.alt 11 (.read 12 (.alt 13 .done .stop)) .stop) .stop) .stop)) .stop)))) Al Dk (fun m N ed => ⟨fun V => V.cell? ⟨b, o + 4, none⟩ = some (.slice (some ⟨H, o', none⟩) j.length cc), ?_, ?_⟩)
  ·exact N.cell a2 O
  have ca : ∀ V : World, V.cell? ⟨b, o + 4, none⟩ = some (.slice (some ⟨H, o', none⟩) j.length cc) → V.cell? ⟨b, o + 4, none⟩ = some (.slice (some ⟨H, o', none⟩) j.length cc) := fun V e => e;refine go ?_;have hSd : m.cell? ⟨b, o + 4, none⟩ = some (.slice (some ⟨H, o', none⟩) j.length cc) := N.cell a2 O;have a6 := G.ext N;have hbw : b < w.heap.size := by have := hf.lt.1; exact this.2
  have zd := N.size;have a1 := List.mem_of_getElem? c;have f5 := Ba a1;have g0 := Bq a1;have c0 : ∀ g, v.ownBlock = some g → g < m.heap.size := fun g hg => (Ab a6.own hg).2;refine D_A rfl ?_ ?_
  ·refine AM rfl (a6.D.cell (o := 4) rfl) ?_;refine wNl hSd ?_;refine D_E rfl ?_;refine AC (ih m H (o' + k * 5) x _ U U (e0.trans (M.trans N)) (d1.E N (fun _ _ => by simp)) (b6 x a1) (c1 x a1)) rfl ?_;rintro u8 w8 ⟨q, f8⟩;obtain ⟨cs, rfl, b8, b0⟩ := f8.cells;obtain ⟨x0, x1, x2, x3, x4, rfl⟩ := AX b8;have a0 := q.cell hSd O;have F := a6.ext q;have z8 := q.size;refine wNl a0 ?_;refine D_E rfl ?_;refine AL (out := [x0, x1, x2, x3, x4]) rfl U Dr (fun w9 l => ?_);have s := l.E.cell a0 O;have p := F.ext l.E;refine wNl s ?_;refine D_E rfl ?_;have o9 := l.own (n := 1) (size := 5) rfl Dq (Nat.le_refl _);have z9 := l.size;have d2 : ((j.take k).map (DZ X)).length = k := by simp; omega
   refine Ak (ok := AZ) (v := v) (sv := .slice (sm w8.heap.size) 1 1) rfl rfl p.own (AV o9 fun _ _ => trivial) U rfl rfl b0 U U U (fun Q d5 d => ?_);have d6 := d.E.size;have t := d.E.cell s (fun c => by have := Ab p.own (Option.mem_toList.1 c); omega);refine wNl t ?_;refine go ?_;refine D_E rfl ?_;have a3 : T ∉ v.ownBlock.toList := fun c => p.ne _ (Option.mem_toList.1 c) rfl;refine AN (v := Q) rfl rfl (Cs d.own) (p.D.E d.E a3) O (fun a4 P => ?_);refine wNl (P.E.cell t Dl) ?_;refine go ?_;obtain ⟨hB, kB⟩ := F.push (B := m.heap.size) ⟨by omega, by omega⟩ c0 U U f8 rfl l d P rfl
   have kD : Ext w a4 := ((M.trans N).trans q).E kB (fun y K => by
    rcases List.mem_cons.1 K with rfl | K
    ·omega
    ·have := (Ab F.own (Option.mem_toList.1 K)).1; omega)
   refine go ?_;refine ⟨(k + 1, Q, L ++ [[x0, x1, x2, x3, x4]]), ⟨rfl, ⟨rfl, rfl, rfl, rfl, rfl, ?_, trivial⟩, ⟨by simp only; omega, kD, ?_, (bz.E (N.trans q) O).E kB ?_, by have := kB.size; omega⟩⟩, by simp only; omega⟩
   ·show iV ((k : Int) + 1) = _;rw [Int.natCast_add]; rfl
   ·exact Fg
   ·intro K;rcases List.mem_cons.1 K with e | K
    ·omega
    ·have := (Ab G.own (Option.mem_toList.1 K)).1;omega
  refine D_E rfl ?_;refine AC (ih m H (o' + k * 5) x _ U U (e0.trans (M.trans N)) (d1.E N (fun _ _ => by simp)) (b6 x a1) (c1 x a1)) rfl ?_;rintro u8 w8 ⟨q, f8⟩;obtain ⟨cs, rfl, b8, b0⟩ := f8.cells;obtain ⟨x0, x1, x2, x3, x4, rfl⟩ := AX b8;have a0 := q.cell hSd O;have F := a6.ext q;have z8 := q.size;refine wNl a0 ?_;refine D_A rfl ?_ ?_
  ·refine AM rfl (F.D.cell (o := 4) rfl) ?_;refine wNl a0 ?_;refine D_E rfl ?_;refine AL (out := [x0, x1, x2, x3, x4]) rfl U Dr (fun w9 l => ?_);have s := l.E.cell a0 O;have p := F.ext l.E;refine wNl s ?_;refine D_E rfl ?_;have o9 := l.own (n := 1) (size := 5) rfl Dq (Nat.le_refl _);have z9 := l.size;have d2 : ((j.take k).map (DZ X)).length = k := by simp; omega
   refine Ak (ok := AZ) (v := v) (sv := .slice (sm w8.heap.size) 1 1) rfl rfl p.own (AV o9 fun _ _ => trivial) U rfl rfl b0 U U U (fun Q d5 d => ?_);have d6 := d.E.size;have t := d.E.cell s (fun c => by have := Ab p.own (Option.mem_toList.1 c); omega);refine wNl t ?_;refine go ?_;refine D_E rfl ?_;have a3 : T ∉ v.ownBlock.toList := fun c => p.ne _ (Option.mem_toList.1 c) rfl;refine AN (v := Q) rfl rfl (Cs d.own) (p.D.E d.E a3) O (fun a4 P => ?_);refine wNl (P.E.cell t Dl) ?_;refine go ?_;obtain ⟨hB, kB⟩ := F.push (B := m.heap.size) ⟨by omega, by omega⟩ c0 U U f8 rfl l d P rfl
   have kD : Ext w a4 := ((M.trans N).trans q).E kB (fun y K => by
    rcases List.mem_cons.1 K with rfl | K
    ·omega
    ·have := (Ab F.own (Option.mem_toList.1 K)).1; omega)
   refine go ?_;refine ⟨(k + 1, Q, L ++ [[x0, x1, x2, x3, x4]]), ⟨rfl, ⟨rfl, rfl, rfl, rfl, rfl, ?_, trivial⟩, ⟨by simp only; omega, kD, ?_, (bz.E (N.trans q) O).E kB ?_, by have := kB.size; omega⟩⟩, by simp only; omega⟩
   ·show iV ((k : Int) + 1) = _;rw [Int.natCast_add]; rfl
   ·exact Fg
   ·intro K;rcases List.mem_cons.1 K with e | K
    ·omega
    ·have := (Ab G.own (Option.mem_toList.1 K)).1;omega
  refine D_E rfl ?_;refine AL (out := [x0, x1, x2, x3, x4]) rfl U Dr (fun w9 l => ?_);have s := l.E.cell a0 O;have p := F.ext l.E;refine wNl s ?_;refine D_E rfl ?_;refine AM rfl (p.D.cell (o := 4) rfl) ?_;refine wNl s ?_;refine D_E rfl ?_;have o9 := l.own (n := 1) (size := 5) rfl Dq (Nat.le_refl _);have z9 := l.size;have d2 : ((j.take k).map (DZ X)).length = k := by simp; omega
  refine Ak (ok := AZ) (v := v) (sv := .slice (sm w8.heap.size) 1 1) rfl rfl p.own (AV o9 fun _ _ => trivial) U rfl rfl b0 U U U (fun Q d5 d => ?_);have d6 := d.E.size;have t := d.E.cell s (fun c => by have := Ab p.own (Option.mem_toList.1 c); omega);refine wNl t ?_;refine go ?_;refine D_E rfl ?_;have a3 : T ∉ v.ownBlock.toList := fun c => p.ne _ (Option.mem_toList.1 c) rfl;refine AN (v := Q) rfl rfl (Cs d.own) (p.D.E d.E a3) O (fun a4 P => ?_);refine wNl (P.E.cell t Dl) ?_;refine go ?_;obtain ⟨hB, kB⟩ := F.push (B := m.heap.size) ⟨by omega, by omega⟩ c0 U U f8 rfl l d P rfl
  have kD : Ext w a4 := ((M.trans N).trans q).E kB (fun y K => by
   rcases List.mem_cons.1 K with rfl | K
   ·omega
   ·have := (Ab F.own (Option.mem_toList.1 K)).1; omega)
  refine go ?_;refine ⟨(k + 1, Q, L ++ [[x0, x1, x2, x3, x4]]), ⟨rfl, ⟨rfl, rfl, rfl, rfl, rfl, ?_, trivial⟩, ⟨by simp only; omega, kD, ?_, (bz.E (N.trans q) O).E kB ?_, by have := kB.size; omega⟩⟩, by simp only; omega⟩
  ·show iV ((k : Int) + 1) = _;rw [Int.natCast_add]; rfl
  ·exact Fg
  ·intro K;rcases List.mem_cons.1 K with e | K
   ·omega
   ·have := (Ab G.own (Option.mem_toList.1 K)).1;omega
 ·refine go ?_;rw [List.take_of_length_le U] at G;have bf := G.D;refine go ?_;refine AE (cs := [iV C, AI E, iV D, iV 0, v]) rfl rfl rfl ?_ bz Dp (fun w5 A => ?_)
  ·intro u hu;simp at hu;rcases hu with rfl | rfl | rfl | rfl | rfl <;> first | rfl | exact Cs G.own
  refine go ?_;exact AT rfl rfl rfl A.D.cells ⟨M.E A.E O, ((G.fin.E A.E (fun x c hm => by have := c.1; simp at hm; omega)).mono fun x c => by have := c.1; omega)⟩
theorem node_ok (w : World) (N : Int) (a : Option Addr) (n c : Nat) : Fn Zp 189 [iV N, .slice a n c] w fun u w' => u = .agg #[iV N, AI [], iV 0, iV 0, .slice a n c] ∧ Ext w w' := by
 refine AG Tryz.func189 rfl Tryz.ntmps189 (go ?_);refine AQ (L := zero5) (fun Q E => go ?_);refine AE (cs := [iV N, AI [], iV 0, iV 0, .slice a n c]) rfl rfl rfl (AU rfl) E.D Dp (fun d b => go ?_);exact AT rfl rfl rfl b.D.cells ⟨rfl, E.E.E b.E O⟩
def ArgW (w : World) (r : Nat) (X : Vl) (d : Option Addr) (args : LF) : Prop := ∀ (k : Nat) (a : Fml), args[k]? = some a → ∀ W, Ext w W → ∃ c p, d = some ⟨c, p, none⟩ ∧ Fn Zp 158 [pt r, .pointer (some ⟨c, p + k * 5, none⟩)] W fun u Z => Ext W Z ∧ FAt (fun b => W.heap.size ≤ b) Z u (rawF X a)
theorem rconn_ok (w : World) (r b o : Nat) (X : Vl) (N : Int) (args : LF) (g : Option Addr) (C : Nat) (a0 : args.length ≤ 1000) (q0 : w.cell? ⟨b, o + 0, none⟩ = some (iV N)) (q4 : w.cell? ⟨b, o + 4, none⟩ = some (.slice g args.length C)) (F : ArgW w r X g args) :
  Fn Zp 154 [pt r, .pointer (some ⟨b, o, none⟩)] w fun u w' => Ext w w' ∧ FAt (fun b => w.heap.size ≤ b) w' u (opF N (args.map (rawF X))) := by
 refine AG Tryz.func154 rfl Tryz.ntmps154 (go ?_);refine AQ (L := zero5) (fun Q E => go ?_);have a2 := E.E.cell q4 O;refine go ?_;refine W_make (n := args.length) rfl rfl rfl rfl U Dq (fun j V => ?_);have s := Fil.start (B := Q.heap.size) V (Nat.le_refl _);have l : Ext w j := E.E.trans V.E;have z1 := E.size;have m : Blk j w.heap.size 36 zero5 := E.D.E V.E O;have a3 := l.cell q4 O;refine go ?_
 refine Ah (α := Nat × List (LV) × LV) (fun y => [(0, pt r), (1, .pointer (some ⟨b, o, none⟩)), (4, pt w.heap.size), (5, .slice (sm Q.heap.size) args.length args.length), (17, iV (args.length : Int)), (18, iV (y.1 : Int))])
  (fun y W => y.1 ≤ args.length ∧ Ext w W ∧ Blk W w.heap.size 36 zero5 ∧ Fil Q.heap.size W Q.heap.size args.length ((args.take y.1).map (rawF X)) y.2.1 y.2.2 ∧ Q.heap.size < W.heap.size) (fun y => args.length - y.1) (0, [], _) ⟨rfl, rfl, rfl, rfl, rfl, rfl, trivial⟩ ⟨by simp, l, m, by simpa using s, by have := V.size; omega⟩ ?_
 rintro ⟨k, L, Z⟩ W fr ⟨P, T, d, q, M⟩;simp only at P T d q M;have a4 := T.cell q4 O;have c : ((args.take k).map (rawF X)).length = k := by simp; omega
 refine go ?_;by_cases e : k < args.length
 ·refine go ?_;obtain ⟨x, i⟩ : ∃ x, args[k]? = some x := ⟨_, List.getElem?_eq_getElem e⟩;obtain ⟨b', o', rfl, v⟩ := F k x i W T;refine go ?_;refine AC v rfl ?_;rintro u w4 ⟨R, I⟩;obtain ⟨t, rfl, h, G⟩ := I.cells;refine go ?_;have z := q.ext R;have H := z.room (by rw [c]; exact e);rw [c] at H;refine AE (cs := t) rfl rfl h G z.D U (fun w5 A => go ?_);have a := A;rw [show 0 + k * 5 = ((args.take k).map (rawF X)).length * 5 by rw [c]; omega] at a;have p := z.push (I.mono fun y K => ⟨by omega, by omega⟩) h (by rw [c]; exact e) a rfl;refine go ?_;refine ⟨(k + 1, L ++ [t], Z.drop 5), ⟨rfl, ⟨rfl, rfl, rfl, rfl, rfl, ?_, trivial⟩, ⟨by simp only; omega, (T.trans R).E A.E Dl, (d.E R O).E A.E Dl, ?_, by have := A.size; have := R.size; omega⟩⟩, by simp only; omega⟩
  ·show iV ((k : Int) + 1) = _;rw [Int.natCast_add]; rfl
  ·simp only;rw [List.take_add_one, i, List.map_append];exact p
 ·refine go ?_;rw [List.take_of_length_le U] at q;have a1 := T.cell q0 O;obtain ⟨_, S⟩ := q.fin O U;refine go ?_;refine AC (node_ok W N _ _ _) rfl ?_;rintro _ w5 ⟨rfl, f⟩;refine AE (cs := [iV N, AI [], iV 0, iV 0, .slice (sm Q.heap.size) args.length args.length]) rfl rfl rfl (AU rfl) (d.E f O) Dp (fun w6 a => go ?_);exact AT rfl rfl rfl a.D.cells ⟨(T.trans f).E a.E O, (((S N [] 0 0).ext f).E a.E (fun y K D => by simp at D; omega)).mono fun y K => by omega⟩
def FnA (w : World) (r : Nat) (X : Vl) (b o : Nat) (f : Fml) : Prop := Fn Zp 190 [pt r, .pointer (some ⟨b, o, none⟩)] w fun u Z => Ext w Z ∧ FAt (fun b => w.heap.size ≤ b) Z u (DZ X f)
theorem rnext_ok (w : World) (r b o : Nat) (X : Vl) (args : LF) (a : Fml) (d : Option Addr) (C : Nat) (q4 : w.cell? ⟨b, o + 4, none⟩ = some (.slice d args.length C)) (H : args = [a])
  (F : ∀ W, Ext w W → ∃ c p, d = some ⟨c, p, none⟩ ∧ FnA W r X c (p + 0 * 5) a) : Fn Zp 155 [pt r, .pointer (some ⟨b, o, none⟩)] w fun u w' => Ext w w' ∧ FAt (fun b => w.heap.size ≤ b) w' u (DZ X a) := by
 subst H;obtain ⟨c, p, rfl, _⟩ := F w (Ext.refl _);simp only [List.length_singleton] at q4;refine AG Tryz.func155 rfl Tryz.ntmps155 (go ?_);refine AQ (L := zero5) (fun Q E => go ?_);have e := E.size;obtain ⟨_, _, x, h⟩ := F Q E.E;cases x;refine go ?_;refine AC h rfl ?_;rintro u q ⟨R, I⟩;obtain ⟨t, rfl, f, n⟩ := I.cells;obtain ⟨g, m, k, j, i, rfl⟩ := AX f;refine AE (cs := [g, m, k, j, i]) rfl rfl rfl n (E.D.E R O) Dp (fun s A => go ?_);exact AT rfl rfl rfl A.D.cells ⟨(E.E.trans R).E A.E O, (I.E A.E (fun y K l => by simp at l; omega)).mono fun y K => by omega⟩
theorem two_new {w w' : World} {ok : Nat → Prop} {a b k j i F H K I v : Value} {f g : Fml} (n : New w w' 36 [a, b, k, j, i, F, H, K, I, v]) (c : FAt ok w (.agg #[a, b, k, j, i]) f) (z : FAt ok w (.agg #[F, H, K, I, v]) g) (S : ok w.heap.size) (N : Int) :
  FAt ok w' (.agg #[iV N, AI [], iV 0, iV 0, .slice (sm w.heap.size) 2 2]) (opF N [f, g]) := by
 have D : FsAt ok w [[a, b, k, j, i], [F, H, K, I, v]] [f, g] := FsAt.two c rfl z rfl;obtain ⟨X, W⟩ := FsAt.fresh (L := [[a, b, k, j, i], [F, H, K, I, v]]) n D S O;exact FAt.node N [] 0 0 X W
theorem runtil_ok (w : World) (r b o : Nat) (X : Vl) (f : Fml) (a c : Fml) (z : Option Addr) (C : Nat) (q4 : w.cell? ⟨b, o + 4, none⟩ = some (.slice z [a, c].length C)) (F : ArgW w r X z [a, c]) (j : ∀ W, Ext w W → FnA W r X b o f) :
  Fn Zp 156 [pt r, .pointer (some ⟨b, o, none⟩)] w fun u w' => Ext w w' ∧ FAt (fun b => w.heap.size ≤ b) w' u (opF 6 [rawF X c, opF 5 [rawF X a, DZ X f]]) := by
 obtain ⟨D, Z, rfl, _⟩ := F 0 a rfl w (Ext.refl _);simp only [List.length_cons, List.length_nil] at q4;refine AG Tryz.func156 rfl Tryz.ntmps156 (go ?_);refine AQ (L := zero5) (fun B s => go ?_);have z1 := s.size;refine AW (rd 0 6 (rd 7 6 (.read 14 (.read 15 (.alt 6 (.alt 13 (.alt 16 (.alt 17 (.alt 18 (.alt 19 (.alt 20 (.alt 21 .done .stop) .stop) .stop) .stop) .stop) .stop) .stop) .stop))))) Al Dk (fun v N ed => ⟨fun V => Keep [w.heap.size] v V, ?_, ?_⟩)
 ·exact Ep
 have E := s.E.trans N;have zd := N.size;have M := World.block_lt_of_cell? w _ q4;simp only at M;have s1 : ∀ V, Keep [w.heap.size] v V → V.cell? ⟨b, o + 4, none⟩ = some (.slice (some ⟨D, Z, none⟩) (0 + 1 + 1) C) := fun V e => e.cell (E.cell q4 O) Dl;refine go ?_;refine D_E rfl ?_;obtain ⟨_, _, x, n⟩ := F 1 c rfl v E;cases x;refine AC n rfl ?_;rintro u2 w2 ⟨l, T⟩;obtain ⟨t, rfl, A, a0⟩ := T.cells;obtain ⟨x0, x1, x2, x3, x4, rfl⟩ := AX A;have z2 := l.size;refine AH ⟨_, fun _ e => e, (l).any, ?_⟩;refine D_E rfl ?_;obtain ⟨_, _, x, n⟩ := F 0 a rfl w2 (E.trans l);cases x;refine AC n rfl ?_;rintro u3 w3 ⟨g, Q⟩;obtain ⟨t, rfl, A, a1⟩ := Q.cells;obtain ⟨y0, y1, y2, y3, y4, rfl⟩ := AX A;have z3 := g.size;refine AH ⟨_, fun _ e => e, (l.trans g).any, ?_⟩;refine D_E rfl ?_;refine AC (j w3 ((E.trans l).trans g)) rfl ?_;rintro u4 w4 ⟨R, I⟩;obtain ⟨t, rfl, A, a2⟩ := I.cells;obtain ⟨v0, v1, v2, v3, v4, rfl⟩ := AX A;have z4 := R.size;refine AH ⟨_, fun _ e => e, ((l.trans g).trans R).any, ?_⟩;refine D_E rfl ?_;refine AL (out := [y0, y1, y2, y3, y4, v0, v1, v2, v3, v4]) rfl U D8 (fun w5 K => ?_);have z5 := K.size;refine AH ⟨_, fun _ e => e, (((l.trans g).trans R).trans K.E).any, ?_⟩;have G := two_new (ok := fun b => B.heap.size ≤ b) K ((Q.ext R).mono fun y d => by omega) (I.mono fun y d => by omega) U 5;refine D_E rfl ?_;refine AC (node_ok w5 5 _ _ _) rfl ?_;rintro _ w6 ⟨rfl, S⟩;have z6 := S.size;have H := G.ext S;refine AH ⟨_, fun _ e => e, ((((l.trans g).trans R).trans K.E).trans S).any, ?_⟩;refine D_E rfl ?_;refine AL (out := [x0, x1, x2, x3, x4, iV 5, AI [], iV 0, iV 0, .slice (sm w4.heap.size) 2 2]) rfl U D8 (fun w7 k => ?_);have z7 := k.size;refine AH ⟨_, fun _ e => e, (((((l.trans g).trans R).trans K.E).trans S).trans k.E).any, ?_⟩;have p := two_new (ok := fun b => B.heap.size ≤ b) k (((((T.ext g).ext R).ext K.E).ext S).mono fun y d => by omega) H U 6;refine D_E rfl ?_;refine AC (node_ok w7 6 _ _ _) rfl ?_;rintro _ w8 ⟨rfl, q⟩;have i := (((((l.trans g).trans R).trans K.E).trans S).trans k.E).trans q;refine AH ⟨_, fun _ e => e, (i).any, ?_⟩;refine D_E rfl ?_;refine AE (cs := [iV 6, AI [], iV 0, iV 0, .slice (sm w6.heap.size) 2 2]) rfl rfl rfl (AU rfl) (s.D.E (N.trans i) O) Dp (fun w9 m => ?_);exact Es
theorem rrel_ok (w : World) (r b o : Nat) (X : Vl) (f : Fml) (a c : Fml) (z : Option Addr) (C : Nat) (q4 : w.cell? ⟨b, o + 4, none⟩ = some (.slice z [a, c].length C)) (F : ArgW w r X z [a, c]) (j : ∀ W, Ext w W → FnA W r X b o f) :
  Fn Zp 157 [pt r, .pointer (some ⟨b, o, none⟩)] w fun u w' => Ext w w' ∧ FAt (fun b => w.heap.size ≤ b) w' u (opF 5 [rawF X c, opF 6 [rawF X a, DZ X f]]) := by
 obtain ⟨D, Z, rfl, _⟩ := F 0 a rfl w (Ext.refl _);simp only [List.length_cons, List.length_nil] at q4;refine AG Tryz.func157 rfl Tryz.ntmps157 (go ?_);refine AQ (L := zero5) (fun B s => go ?_);have z1 := s.size;refine AW (rd 0 6 (rd 7 6 (.read 14 (.read 15 (.alt 6 (.alt 13 (.alt 16 (.alt 17 (.alt 18 (.alt 19 (.alt 20 (.alt 21 .done .stop) .stop) .stop) .stop) .stop) .stop) .stop) .stop))))) Al Dk (fun v N ed => ⟨fun V => Keep [w.heap.size] v V, ?_, ?_⟩)
 ·exact Ep
 have E := s.E.trans N;have zd := N.size;have M := World.block_lt_of_cell? w _ q4;simp only at M;have s1 : ∀ V, Keep [w.heap.size] v V → V.cell? ⟨b, o + 4, none⟩ = some (.slice (some ⟨D, Z, none⟩) (0 + 1 + 1) C) := fun V e => e.cell (E.cell q4 O) Dl;refine go ?_;refine D_E rfl ?_;obtain ⟨_, _, x, n⟩ := F 1 c rfl v E;cases x;refine AC n rfl ?_;rintro u2 w2 ⟨l, T⟩;obtain ⟨t, rfl, A, a0⟩ := T.cells;obtain ⟨x0, x1, x2, x3, x4, rfl⟩ := AX A;have z2 := l.size;refine AH ⟨_, fun _ e => e, (l).any, ?_⟩;refine D_E rfl ?_;obtain ⟨_, _, x, n⟩ := F 0 a rfl w2 (E.trans l);cases x;refine AC n rfl ?_;rintro u3 w3 ⟨g, Q⟩;obtain ⟨t, rfl, A, a1⟩ := Q.cells;obtain ⟨y0, y1, y2, y3, y4, rfl⟩ := AX A;have z3 := g.size;refine AH ⟨_, fun _ e => e, (l.trans g).any, ?_⟩;refine D_E rfl ?_;refine AC (j w3 ((E.trans l).trans g)) rfl ?_;rintro u4 w4 ⟨R, I⟩;obtain ⟨t, rfl, A, a2⟩ := I.cells;obtain ⟨v0, v1, v2, v3, v4, rfl⟩ := AX A;have z4 := R.size;refine AH ⟨_, fun _ e => e, ((l.trans g).trans R).any, ?_⟩;refine D_E rfl ?_;refine AL (out := [y0, y1, y2, y3, y4, v0, v1, v2, v3, v4]) rfl U D8 (fun w5 K => ?_);have z5 := K.size;refine AH ⟨_, fun _ e => e, (((l.trans g).trans R).trans K.E).any, ?_⟩;have G := two_new (ok := fun b => B.heap.size ≤ b) K ((Q.ext R).mono fun y d => by omega) (I.mono fun y d => by omega) U 6;refine D_E rfl ?_;refine AC (node_ok w5 6 _ _ _) rfl ?_;rintro _ w6 ⟨rfl, S⟩;have z6 := S.size;have H := G.ext S;refine AH ⟨_, fun _ e => e, ((((l.trans g).trans R).trans K.E).trans S).any, ?_⟩;refine D_E rfl ?_;refine AL (out := [x0, x1, x2, x3, x4, iV 6, AI [], iV 0, iV 0, .slice (sm w4.heap.size) 2 2]) rfl U D8 (fun w7 k => ?_);have z7 := k.size;refine AH ⟨_, fun _ e => e, (((((l.trans g).trans R).trans K.E).trans S).trans k.E).any, ?_⟩;have p := two_new (ok := fun b => B.heap.size ≤ b) k (((((T.ext g).ext R).ext K.E).ext S).mono fun y d => by omega) H U 5;refine D_E rfl ?_;refine AC (node_ok w7 5 _ _ _) rfl ?_;rintro _ w8 ⟨rfl, q⟩;have i := (((((l.trans g).trans R).trans K.E).trans S).trans k.E).trans q;refine AH ⟨_, fun _ e => e, (i).any, ?_⟩;refine D_E rfl ?_;refine AE (cs := [iV 5, AI [], iV 0, iV 0, .slice (sm w6.heap.size) 2 2]) rfl rfl rfl (AU rfl) (s.D.E (N.trans i) O) Dp (fun w9 m => ?_);exact Es
theorem rraw_of (w : World) (r : Nat) (S : List Sgn) (x : Int) (F : FuncId) [hF : AD Zp F] (b o : Nat) (f g : Fml) (z : Rdr w r S x) (q : PF AZ w b o f) (v : Bs f = false) (M : (rawT r).lookup f.op = some (mvR F r))
  (H : ∀ W, Ext w W → Fn Zp F [pt r, .pointer (some ⟨b, o, none⟩)] W fun u m => Ext W m ∧ FAt (fun b => W.heap.size ≤ b) m u g) : Fn Zp 158 [pt r, .pointer (some ⟨b, o, none⟩)] w fun u w' => Ext w w' ∧ FAt (fun b => w.heap.size ≤ b) w' u g := by
 obtain ⟨sa, sc, ra, rc, mt, T, p, hS, hv, a0, A⟩ := z;have s := q.opc;have a2 := p.lt;have a1 := A.lt;have D := World.block_lt_of_cell? w _ s;simp only at D;refine AG Tryz.func158 rfl Tryz.ntmps158 (go ?_);refine AQ (L := zero5) (fun Q E => go ?_);refine AC (rpast_ok (dpF f) Q b o f (Nat.le_refl _) (q.E E.E (fun _ _ => by simp))) rfl ?_;rintro _ X ⟨rfl, l⟩;have C := E.E.trans l;have B : Blk X w.heap.size 36 zero5 := E.D.E l O;rw [v];refine go ?_;refine AW (rd 0 10 (.alt 10 (.alt 11 .done .stop) .stop)) Al Dk (fun K N ed => ⟨fun V => Keep [w.heap.size] K V, ?_, ?_⟩)
 ·exact Ep
 have c := C.trans N;have s1 : ∀ V, Keep [w.heap.size] K V → V.cell? ⟨r, 0 + 3, none⟩ = some (.map (some T)) := fun V e => e.cell ((p.E c O).cell rfl) Dl;have s2 : ∀ V, Keep [w.heap.size] K V → V.cell? ⟨b, o + 0, none⟩ = some (iV f.op) := fun V e => e.cell (c.cell s O) Dl;refine go ?_;refine D_R rfl rfl (fun V a => by refine W_lookupV rfl rfl ((A.E c O).E a Dl) M ?_; exact AH ⟨rfl, rfl, rfl⟩) ?_;refine go ?_;refine D_E rfl ?_;refine Av (v1 := [pt r]) (v2 := []) (vs := [.pointer (some ⟨b, o, none⟩)]) rfl (H K c) rfl ?_;rintro u w4 ⟨R, I⟩;obtain ⟨t, rfl, G, n⟩ := I.cells;obtain ⟨Z, x1, k, j, i, rfl⟩ := AX G;refine AH ⟨_, fun _ e => e, R.any, ?_⟩;refine D_E rfl ?_;have zd := c.size;have z1 := E.size;have zk := l.size;have a3 := N.size;refine AE (cs := [Z, x1, k, j, i]) rfl rfl rfl n ((B.E N O).E R O) Dp (fun w9 d => ?_);refine AH ⟨_, fun _ e => e, R.any.trans d.E (fun _ h _ => h), ?_⟩;refine go ?_;exact AT rfl rfl rfl d.D.cells ⟨(c.trans R).E d.E O, (I.E d.E (fun y P A => by simp at A; omega)).mono fun y P => by omega⟩
theorem past_3 {a : Fml} {i : Bool} (h : BC i a = true) (R : a.op = 3) : Bs a = true := by
 obtain ⟨N, o, v, b, j⟩ := a;obtain ⟨_, W, _, _⟩ := Bz h;obtain rfl : N = 3 := R;have c := Bg W;have : j = [] := List.eq_nil_of_length_eq_zero (by simpa [Ar] using c);subst this;rfl
theorem bare_future {N v b : Int} {nm : LU} {args : LF} {i : Bool} (h : BC i (.mk N nm v b args) = true) (c : Bs (.mk N nm v b args) = false) : N = 5 ∨ N = 6 ∨ N = 8 ∨ N = 9 ∨ N = 10 := by
 obtain ⟨X, W, R, w⟩ := Bz h;have d := Bg W
 have s : N = 1 ∨ N = 2 ∨ N = 3 → False := fun f => by
  have : args = [] := List.eq_nil_of_length_eq_zero (by rcases f with rfl | rfl | rfl <;> simpa [Ar] using d);subst this;rcases f with rfl | rfl | rfl <;> simp [Bs, pastL] at c
 have e : N = 15 ∨ N = 16 ∨ N = 17 → False := fun f => by rw [past_of_pst h f] at c; cases c
 have q : N = 4 → False := fun f => by
  have D := (sh_iff.1 (DL h)).2.1.2.2.2.2 f;rw [Bs, pastL_of fun a H => past_3 (w a H) (D a H)] at c;subst f;simp at c
 rcases Bj X with h | h | h | h | h | h | h | h | h | h | h | h <;> first | exact (s U).elim | exact (e U).elim | exact (q h).elim | omega
theorem rraw_ok (K : World) (r : Nat) (S : List Sgn) (x : Int) (z : Rdr K r S x) : ∀ (n : Nat) (w : World) (b o : Nat) (f : Fml), dpF f ≤ n → szF f ≤ 1000 → Ext K w → PF AZ w b o f → BC false f = true → isB (knS S) f = true →
  Fn Zp 158 [pt r, .pointer (some ⟨b, o, none⟩)] w fun u w' => Ext w w' ∧ FAt (fun b => w.heap.size ≤ b) w' u (rawF (vlS S x) f) := by
 have a3 := rnow_ok K r S x z;have p := raged_ok K r S x z;obtain ⟨X, hX⟩ : ∃ X, X = vlS S x := ⟨_, rfl⟩;rw [← hX] at a3 p ⊢;intro n
 induction n with
 | zero => intro w b o f v; rw [BP] at v; omega
 | succ n ih =>
 intro w b o f v T t G B P;have a6 := v;have a9 := T;have I := z.ext t;obtain ⟨i, s, a7, q0, q1, q2, q3, C, qa⟩ := G.all;have D := G;cases hp : Bs f with
 | false =>
  obtain ⟨op, Z, vl, d, j⟩ := f;obtain ⟨b1, a8, _, a0⟩ := Bz B;have M := Bg a8;obtain ⟨b0, a2⟩ := is_iff.1 P;have b2 := Bv j;rw [BP] at v;rw [Bd] at T;simp only [Fml.op, Fml.args] at v T a7 q0 C qa;have a1 := bare_future B hp;rw [raw_eq, if_neg (by rw [hp]; exact Bool.false_ne_true)]
  have a5 : ArgW w r X i j := fun k a H W eW => by
   obtain ⟨q, o', e, m⟩ := qa k a H;have F := List.mem_of_getElem? H;have h1 := Ba F;have h2 := Bq F;have h3 := a0 a F;rw [show (false || pstB op) = false by rcases a1 with rfl | rfl | rfl | rfl | rfl <;> rfl] at h3;exact ⟨q, o', e, ih W q _ a U U (t.trans eW) (m.E eW (fun _ _ => by simp)) h3 (a2 a F)⟩
  have N : ∀ W, Ext w W → ArgW W r X i j := fun W e k a H V h => a5 k a H V (e.trans h);have a4 : ∀ W, Ext w W → FnA W r X b o (.mk op Z vl d j) := fun W e => p (n + 1) W b o _ false a6 a9 (t.trans e) (D.E e (fun _ _ => by simp)) B P;rcases a1 with rfl | rfl | rfl | rfl | rfl
  ·exact rraw_of w r S x 154 b o _ _ I D hp rfl fun W e => rconn_ok W r b o X 5 j i s U (e.cell q0 O) (e.cell C O) (N W e)
  ·exact rraw_of w r S x 154 b o _ _ I D hp rfl fun W e => rconn_ok W r b o X 6 j i s U (e.cell q0 O) (e.cell C O) (N W e)
  ·obtain ⟨a, H⟩ := C7 (l := j) (by simpa [Ar] using M);have F : a ∈ j := by rw [H]; simp
   have h1 := Ba F;have h2 := Bq F;obtain ⟨q, o', e', m⟩ := qa 0 a (by rw [H]; rfl);have Q : rawOp 8 (DZ X (.mk 8 Z vl d j)) (j.map (rawF X)) (j.map (DZ X)) = DZ X a := by rw [H]; rfl
   rw [Q];exact rraw_of w r S x 155 b o _ _ I D hp rfl fun W e => rnext_ok W r b o X j a i s (e.cell C O) H fun V h => ⟨q, o', e', p n V q _ a _ U U (t.trans (e.trans h)) (m.E (e.trans h) (fun _ _ => by simp)) (a0 a F) (a2 a F)⟩
  ·obtain ⟨a, c, H⟩ := CZ (l := j) (by simpa [Ar] using M);subst H;exact rraw_of w r S x 156 b o _ _ I D hp rfl fun W e => runtil_ok W r b o X _ a c i s (e.cell C O) (N W e) fun V h => a4 V (e.trans h)
  ·obtain ⟨a, c, H⟩ := CZ (l := j) (by simpa [Ar] using M);subst H;exact rraw_of w r S x 157 b o _ _ I D hp rfl fun W e => rrel_ok W r b o X _ a c i s (e.cell C O) (N W e) fun V h => a4 V (e.trans h)
 | true =>
  have Q : rawF X f = constF (Br X f) := by
   obtain ⟨op, Z, vl, d, j⟩ := f;rw [raw_eq, if_pos hp]
  rw [Q];refine AG Tryz.func158 rfl Tryz.ntmps158 (go ?_);refine AQ (L := zero5) (fun w1 E => go ?_);refine AC (rpast_ok (dpF f) w1 b o f (Nat.le_refl _) (G.E E.E (fun _ _ => by simp))) rfl ?_;rintro _ w2 ⟨rfl, k2⟩;have A := E.E.trans k2;have b4 : Blk w2 w.heap.size 36 zero5 := E.D.E k2 O;rw [hp];refine go ?_;refine AC (a3 (dpF f) w2 b o f false (Nat.le_refl _) (t.trans A) (G.E A (fun _ _ => by simp)) B hp P) rfl ?_;rintro _ w3 ⟨rfl, g⟩;cases Br X f with
  | true =>
   refine go ?_;refine AC (node_ok w3 1 none 0 0) rfl ?_;rintro _ w4 ⟨rfl, R⟩;refine AE (cs := [iV 1, AI [], iV 0, iV 0, .slice none 0 0]) rfl rfl rfl (AU rfl) ((b4.E g O).E R O) Dp (fun w9 y => go ?_);exact AT rfl rfl rfl y.D.cells ⟨((A.trans g).trans R).E y.E O, FAt.leaf _ _ 1 [] 0 0⟩
  | false =>
   refine go ?_;refine AC (node_ok w3 2 none 0 0) rfl ?_;rintro _ w4 ⟨rfl, R⟩;refine AE (cs := [iV 2, AI [], iV 0, iV 0, .slice none 0 0]) rfl rfl rfl (AU rfl) ((b4.E g O).E R O) Dp (fun w9 y => go ?_);exact AT rfl rfl rfl y.D.cells ⟨((A.trans g).trans R).E y.E O, FAt.leaf _ _ 2 [] 0 0⟩
end
def BV (f : Fml) : Fml := if BD f = true then Ao f else Ae
theorem BG {f : Fml} (h : BD f = true) : szF f ≤ 400 ∧ dpF f ≤ 60 ∧ BC false f = true := by
 simp only [BD, Bool.and_eq_true, decide_eq_true_eq] at h;obtain ⟨⟨X, W⟩, R⟩ := h;rw [bareG_eq U] at R;exact ⟨X, W, R⟩
theorem loose_mk {f : Fml} (X : szF f ≤ 400) (W : dpF f ≤ 60) (R : BC false f = true) : BD f = true := by
 simp only [BD, Bool.and_eq_true, decide_eq_true_eq];exact ⟨⟨X, W⟩, by rw [bareG_eq U]; exact R⟩
theorem BL (w : World) (v : Value) (f : Fml) (m : FAt AZ w v f) (D : GF w) (z : KY w) (B : 10 ≤ w.heap.size) : Fn Zp 17 [v] w fun u w' => Ext w w' ∧ FAt (fun b => w.heap.size ≤ b ∧ Unm w' b) w' u (BV f) := by
 obtain ⟨c, rfl, C, n⟩ := m.cells;obtain ⟨q, r, k, j, i, rfl⟩ := AX C;refine AG Tryz.func17 rfl Tryz.ntmps17 (go ?_);refine Aj (L := [q, r, k, j, i]) rfl (fun Q E => ?_);refine AQ (L := zero5) (fun l V => go ?_);have e := E.size;have a := E.E.trans V.E;have s : Blk l w.heap.size 36 [q, r, k, j, i] := E.D.E V.E O;have x := V.D;have o : PF AZ l w.heap.size 0 f := ⟨trivial, _, rfl, s.cells, m.ext a⟩;refine go ?_;refine AC (loose_ok l w.heap.size 0 f o (D.ext a) (z.E a O) (Nat.le_trans B a.size)) rfl ?_;rintro _ P ⟨rfl, g⟩;have T := x.E g O;unfold BV;cases hl : BD f with
 | false =>
  rw [if_neg Bool.false_ne_true];refine go ?_;refine AE (cs := zero5) rfl rfl rfl (AU rfl) T Dp (fun d h => go ?_);exact AT rfl rfl rfl h.D.cells ⟨(a.trans g).E h.E Dl, FAt.leaf _ _ 0 [] 0 0⟩
 | true =>
  rw [if_pos rfl];obtain ⟨Z, M, N⟩ := BG hl;refine go ?_;refine AC (canon_ok 60 P w.heap.size 0 f M U (o.E g (fun _ _ => by simp)) (DL N)) rfl ?_;rintro u p ⟨R, I⟩;obtain ⟨t, rfl, A, n⟩ := I.cells;obtain ⟨F, H, S, W, X, rfl⟩ := AX A;have z3 := a.size;have a0 := g.size;have z2 := V.size;refine AE (cs := [F, H, S, W, X]) rfl rfl rfl n (T.E R O) Dp (fun d h => go ?_);exact AT rfl rfl rfl h.D.cells ⟨((a.trans g).trans R).E h.E Dl, (I.unm h.E (fun y K G => by rw [List.mem_singleton] at G; omega)).mono fun y K => ⟨by omega, K.2⟩⟩
def resG (x : Vl) (f : Fml) : Fml := BV (rawF x f)
theorem resid_ok (w : World) (r : Nat) (S : List Sgn) (x : Int) (C : Rdr w r S x) (b o : Nat) (f : Fml) (M : BD f = true) (P : isB (knS S) f = true) (I : PF AZ w b o f) (D : GF w) (B : KY w) (c : 10 ≤ w.heap.size) :
  Fn Zp 100 [pt r, .pointer (some ⟨b, o, none⟩)] w fun u w' => Ext w w' ∧ FAt (fun b => w.heap.size ≤ b ∧ Unm w' b) w' u (resG (vlS S x) f) := by
 obtain ⟨l1, N, V⟩ := BG M;refine AG Tryz.func100 rfl Tryz.ntmps100 (go ?_);refine AQ (L := zero5) (fun Q E => go ?_);have z1 := E.size;refine go ?_;refine AC (rraw_ok w r S x C 60 Q b o f N U E.E (I.E E.E (fun _ _ => by simp)) V P) rfl ?_;rintro u m ⟨l, T⟩;obtain ⟨t, rfl, A, n⟩ := T.cells;obtain ⟨g, q, k, j, i, rfl⟩ := AX A;refine AQ (L := zero5) (fun w3 e => ?_);refine AE (cs := [g, q, k, j, i]) rfl rfl rfl n e.D Dp (fun p h => go ?_);have b5 : Blk p m.heap.size 36 [g, q, k, j, i] := h.D;have R : Ext m p := e.E.E h.E O;have W := (E.E.trans l).trans R;have s : Blk p w.heap.size 36 zero5 := E.D.E (l.trans R) O;refine go ?_;refine AC (BL p _ _ ((T.ext R).mono fun _ _ => trivial) (D.ext W) (B.E W O) (Nat.le_trans c W.size)) rfl ?_;rintro u w5 ⟨d, z⟩;obtain ⟨t, rfl, A, n⟩ := z.cells;obtain ⟨F, H, X, Z, v, rfl⟩ := AX A;have z4 := W.size;have z2 := l.size;have a0 := R.size;refine AE (cs := [F, H, X, Z, v]) rfl rfl rfl n (s.E d O) Dp (fun w9 a => go ?_);exact AT rfl rfl rfl a.D.cells ⟨(W.trans d).E a.E O, (z.unm a.E (fun y K G => by rw [List.mem_singleton] at G; omega)).mono fun y K => ⟨by omega, K.2⟩⟩
def looseP (f : Fml) : Bool := kernG f || decide ((BV f).op ≠ 0)
theorem rloose_ok (w : World) (b o : Nat) (f : Fml) (I : PF AZ w b o f) (D : GF w) (a : KY w) (c : 10 ≤ w.heap.size) : Fn Zp 96 [.pointer (some ⟨b, o, none⟩)] w fun u w' => u = .bool (looseP f) ∧ Ext w w' := by
 have n := I;obtain ⟨_, d, C, k, z⟩ := I;obtain ⟨g, e, h, j, i, rfl⟩ := AX C;refine AG Tryz.func96 rfl Tryz.ntmps96 (go ?_);refine AR (L := [g, e, h, j, i]) rfl rfl k ?_;refine AC (iskernel_ok w _ f z D a c) rfl ?_;rintro _ Q ⟨rfl, X⟩;unfold looseP;cases hkf : kernG f with
 | true =>
  exact Eb
 | false =>
  refine go ?_;refine AR (L := [g, e, h, j, i]) rfl rfl (k.E X O) (go ?_);refine AC (BL Q _ f (z.ext X) (D.ext X) (a.E X O) (Nat.le_trans c X.size)) rfl ?_;rintro u p ⟨l, T⟩;obtain ⟨m, rfl, _⟩ := T.form;refine go ?_;refine W_field (L := [iV (BV f).op, AI (BV f).name, iV (BV f).val, iV (BV f).bound, m]) rfl rfl ?_;by_cases s : (BV f).op = 0
  ·rw [decide_eq_false U];exact Fc
  ·rw [decide_eq_true s];exact Fc
theorem isL_all (k : LU → Int → Bool) : ∀ l : LF, isL k l = l.all (isB k)
 | [] => rfl
 | a :: l => by rw [isL, isL_all k l]; rfl
theorem known_ok (x : World) (M : Option Addr) (L : Nat) (S : List Sgn) (h : SlAt sgnR AZ x (.slice M S.length L) S) : ∀ (n : Nat) (w : World) (b o : Nat) (f : Fml), dpF f ≤ n → Ext x w → PF AZ w b o f → Fn Zp 97 [.slice M S.length L, .pointer (some ⟨b, o, none⟩)] w fun u w' => u = .bool (isB (knS S) f) ∧ Ext w w' := by
 intro n
 induction n with
 | zero => intro w b o f G; rw [BP] at G; omega
 | succ n ih =>
 intro w b o f G B hf;rw [BP] at G;have E := h.ext B;obtain ⟨A, cc, b1, q0, q1, q2, q3, C, qa⟩ := hf.all;obtain ⟨X, t, v, bd, c⟩ := f;simp only [Fml.op, Fml.name, Fml.val, Fml.args] at *
 have a1 : ∀ (k : Nat) (a : Fml), c[k]? = some a → ∀ W, Ext w W → ∃ r p, A = some ⟨r, p, none⟩ ∧ Fn Zp 97 [.slice M S.length L, .pointer (some ⟨r, p + k * 5, none⟩)] W fun u w' => u = .bool (isB (knS S) a) ∧ Ext W w' := fun k a H W l => by
  exact FG
 rw [isB];refine AG Tryz.func97 rfl Tryz.ntmps97 ?_;repeat refine nx rfl ?_
 refine AJ (Ac (AP rfl ?_));repeat refine nx rfl ?_
 refine AJ (Ag rfl (AK rfl (AF rfl (AM rfl Do ?_))));refine W_eqlD rfl rfl ?_;refine AH ?_;refine Q_then ?_;refine C_mid (α := Unit) (fun _ => [(0, .slice M S.length L), (1, .pointer (some ⟨b, o, none⟩))]) (fun _ W => Ext w W ∧ (if X = 3 then knS S t v else true) = true) ?_ ?_
 ·by_cases R : X = 3
  ·rw [decide_eq_true R];refine go ?_;refine AC (sigFind_ok w _ S t E) rfl ?_;rintro _ w2 ⟨rfl, rfl⟩;simp only [if_pos R];unfold Dg knS;cases hj : S.findIdx? (fun y => decide (y.name = t)) with
   | none =>
    simp only;refine go ?_;refine AW (rd 0 14 .done) Al Dk (fun K N I => ⟨Ext K, ?_, ?_⟩)
    ·exact EZ
    refine go ?_;exact AA rfl ⟨rfl, N⟩
   | some j =>
    have a4 : j < S.length := (List.findIdx?_eq_some_iff_getElem.1 hj).1;obtain ⟨s, D⟩ : ∃ s, S[j]? = some s := ⟨_, List.getElem?_eq_getElem a4⟩;obtain ⟨_, sb, so, rfl, _, a8⟩ := E.sig D;simp only [D];refine go ?_;refine AW (rd 0 14 .done) Al Dk (fun K N I => ⟨Ext K, ?_, ?_⟩)
    ·exact EZ
    have s1 : ∀ V, Ext K V → V.cell? ⟨b, o + 2, none⟩ = some (iV v) := fun V e => (N.trans e).cell q2 O;have s2 : ∀ V, Ext K V → V.cell? ⟨sb, so + j * 3 + 2, none⟩ = some (iV s.size) := fun V e => (N.trans e).cell (a8 2 _ rfl) O;by_cases q : v < s.size
    ·refine go ?_;exact Aw () ⟨rfl, rfl, trivial⟩ ⟨N, decide_eq_true q⟩
    ·refine go ?_;exact AA rfl ⟨by rw [decide_eq_false q]; rfl, N⟩
  ·rw [decide_eq_false R];refine go ?_;exact Aw () ⟨rfl, rfl, trivial⟩ ⟨Ext.refl _, by rw [if_neg R]⟩
 rintro _ Z f5 ⟨g, a7⟩;rw [a7, Bool.true_and, isL_all];have a9 := g.cell C O;clear C;have C := a9;have a0 : ∀ (k : Nat) (a : Fml), c[k]? = some a → ∀ W, Ext Z W → ∃ r p, A = some ⟨r, p, none⟩ ∧ Fn Zp 97 [.slice M S.length L, .pointer (some ⟨r, p + k * 5, none⟩)] W fun u w' => u = .bool (isB (knS S) a) ∧ Ext W w' := fun k a H W l => a1 k a H W (g.trans l);refine go ?_;refine Ah (α := Nat) (fun k => [(0, .slice M S.length L), (1, .pointer (some ⟨b, o, none⟩)), (36, iV (c.length : Int)), (37, iV (k : Int))]) (fun k W => k ≤ c.length ∧ Ext Z W ∧ ∀ (i : Nat) (y : Fml), i < k → c[i]? = some y → isB (knS S) y = true) (fun k => c.length - k) 0 (by repeat (first | exact trivial | refine ⟨rfl, ?_⟩)) ⟨by omega, Ext.refl _, fun i y F => by omega⟩ ?_;rintro k W fr ⟨b0, T, P⟩;refine go ?_;by_cases a5 : k < c.length
 ·refine go ?_;obtain ⟨y, m⟩ : ∃ y, c[k]? = some y := ⟨_, List.getElem?_eq_getElem a5⟩;obtain ⟨r, p, rfl, a2⟩ := a0 k y m W T;refine go ?_;refine AC a2 rfl ?_;rintro _ w4 ⟨rfl, k4⟩;have Q := T.trans k4;cases q : isB (knS S) y with
  | true =>
   refine go ?_;refine ⟨k + 1, ⟨rfl, ⟨(by repeat (first | exact trivial | refine ⟨rfl, ?_⟩)), ⟨by omega, Q, fun i z F d => ?_⟩⟩⟩, by omega⟩;by_cases a3 : i = k
   ·subst a3; rw [m] at d; cases d; exact q
   ·exact P i z U d
  | false =>
   refine go ?_;exact AA rfl ⟨congrArg Value.bool (all_stop m q).symm, (g).trans Q⟩
 ·refine go ?_;exact AA rfl ⟨congrArg Value.bool (all_done fun i z F d => P i z U d).symm, (g).trans T⟩
def fitsB (S : List Sgn) (f : Fml) : Bool := A6 S && (looseP f && isB (knS S) f)
theorem pfits_ok (w : World) (M : Option Addr) (L : Nat) (S : List Sgn) (b o : Nat) (f : Fml) (h : SlAt sgnR AZ w (.slice M S.length L) S) (I : PF AZ w b o f) (D : GF w) (a : KY w) (c : 10 ≤ w.heap.size) :
  Fn Zp 61 [.slice M S.length L, .pointer (some ⟨b, o, none⟩)] w fun u w' => u = .bool (fitsB S f) ∧ Ext w w' := by
 refine AG Tryz.func61 rfl Tryz.ntmps61 (go ?_);refine AC (Dj w _ S h a) rfl ?_;rintro _ Q ⟨rfl, X⟩;unfold fitsB;cases A6 S with
 | false =>
  exact Eb
 | true =>
  refine go ?_;refine AC (rloose_ok Q b o f (I.E X (fun _ _ => by simp)) (D.ext X) (a.E X O) (Nat.le_trans c X.size)) rfl ?_;rintro _ d ⟨rfl, l⟩;cases looseP f with
  | false =>
   exact Fc
  | true =>
   refine go ?_;have y := X.trans l;refine go ?_;refine AC (known_ok d M L S (h.ext y) (dpF f) d b o f (Nat.le_refl _) (Ext.refl _) (I.E y (fun _ _ => by simp))) rfl ?_;rintro _ e ⟨rfl, g⟩;cases isB (knS S) f with
   | true =>
    refine go ?_;exact AA rfl ⟨rfl, y.trans g⟩
   | false =>
    refine go ?_;exact AA rfl ⟨rfl, y.trans g⟩
theorem fits_parts {S : List Sgn} {f : Fml} (h : fitsB S f = true) : A6 S = true ∧ BD f = true ∧ isB (knS S) f = true := by
 simp only [fitsB, Bool.and_eq_true] at h;obtain ⟨X, W, R⟩ := h;refine ⟨X, ?_, R⟩;unfold looseP at W;rcases Bool.or_eq_true_iff.1 W with h | h
 ·simp only [kernG, Bool.and_eq_true, decide_eq_true_eq] at h;simp only [BD, Bool.and_eq_true, decide_eq_true_eq];exact ⟨⟨by omega, by omega⟩, h.2⟩
 ·cases hl : BD f with
  | true => rfl
  | false =>
   unfold BV at h;rw [hl, if_neg Bool.false_ne_true] at h;exact absurd rfl (of_decide_eq_true h)
def Ca (S : List Sgn) (f : Fml) (x : Int) : Fml := if fitsB S f = true ∧ 0 ≤ x ∧ x < CN S then resG (vlS S x) f else Ae
theorem Step_ok (w : World) (M : Option Addr) (B : Nat) (S : List Sgn) (v : Value) (f : Fml) (x : Int) (s : SlAt sgnR AZ w (.slice M S.length B) S) (I : FAt AZ w v f) (D : GF w) (o : KY w) (p : 10 ≤ w.heap.size) :
  Fn Zp 62 [.slice M S.length B, v, iV x] w fun u w' => Ext w w' ∧ FAt (fun b => w.heap.size ≤ b ∧ Unm w' b) w' u (Ca S f x) := by
 obtain ⟨c, rfl, a0, n⟩ := I.cells;obtain ⟨N, Q, k, j, i, rfl⟩ := AX a0;refine AG Tryz.func62 rfl Tryz.ntmps62 (go ?_);refine Aj (L := [N, Q, k, j, i]) rfl (fun w1 E => ?_);refine AQ (L := zero5) (fun C V => go ?_);have z1 := E.size;have z2 := V.size;have l := E.E.trans V.E;have Z : Blk C w.heap.size 36 [N, Q, k, j, i] := E.D.E V.E O;have b2 := V.D;have G : PF AZ C w.heap.size 0 f := ⟨trivial, _, rfl, Z.cells, I.ext l⟩;refine go ?_;refine AC (pfits_ok C M B S w.heap.size 0 f (s.ext l) G (D.ext l) (o.E l O) (Nat.le_trans p l.size)) rfl ?_;rintro _ w3 ⟨rfl, g⟩;have z := l.trans g;have T := b2.E g O;unfold Ca;cases hfit : fitsB S f with
 | false =>
  rw [if_neg (fun h => Bool.false_ne_true h.1)];exact FK
 | true =>
  obtain ⟨hv, hl, P⟩ := fits_parts hfit;by_cases a1 : x < 0
  ·rw [if_neg (fun h => by omega)];exact FK
  ·refine go ?_;refine AC (letters_ok w3 _ S (s.ext z) (o.E z O) (Nat.le_trans p z.size)) rfl ?_;rintro _ w4 ⟨rfl, R⟩;have W := z.trans R;have F := T.E R O;by_cases a : x < CN S
   ·rw [if_pos ⟨rfl, by omega, a⟩];refine go ?_;refine AC (readerOf_ok w4 _ S x (s.ext W) hv U a (o.E W O) (Nat.le_trans p W.size)) rfl ?_;rintro _ w5 ⟨r, rfl, q, hR⟩;have m := W.trans q;refine AC (resid_ok w5 r S x hR w.heap.size 0 f hl P (G.E ((g.trans R).trans q) (fun _ _ => by simp)) (D.ext m) (o.E m O) (Nat.le_trans p m.size)) rfl ?_;rintro u w6 ⟨H, X⟩;obtain ⟨t, rfl, A, n⟩ := X.cells;obtain ⟨y0, y1, y2, y3, y4, rfl⟩ := AX A;have z4 := W.size;have z5 := q.size;have z3 := g.size;have a2 := R.size;refine AE (cs := [y0, y1, y2, y3, y4]) rfl rfl rfl n ((F.E q O).E H O) Dp (fun d e => go ?_);exact AT rfl rfl rfl e.D.cells ⟨(m.trans H).E e.E Dl, (X.unm e.E (fun y K hm => by rw [List.mem_singleton] at hm; omega)).mono fun y K => ⟨by omega, K.2⟩⟩
   ·rw [if_neg (fun h => a h.2.2)];refine go ?_;refine AE (cs := zero5) rfl rfl rfl (AU rfl) F Dp (fun d e => go ?_);exact AT rfl rfl rfl e.D.cells ⟨W.E e.E Dl, FAt.leaf _ _ 0 [] 0 0⟩
def runL (S : List Sgn) : Fml → List Int → Fml
 | out, [] => out
 | out, x :: xs => if (Ca S out x).op = 0 then Ae else runL S (Ca S out x) xs
def Db (S : List Sgn) (f : Fml) (xs : List Int) : Fml := if fitsB S f = true then runL S (BV f) xs else Ae
def runK (S : List Sgn) (f : Fml) (xs : List Int) : Nat → Fml
 | 0 => BV f
 | k + 1 => Ca S (runK S f xs k) (xs.getD k 0)
theorem runL_K (S : List Sgn) (f : Fml) (xs : List Int) : ∀ k, k ≤ xs.length → (∀ i, i < k → (runK S f xs (i + 1)).op ≠ 0) → runL S (BV f) xs = runL S (runK S f xs k) (xs.drop k)
 | 0, _, _ => by simp [runK]
 | k + 1, hk, h => by
  rw [runL_K S f xs k U fun i F => h i U]
  have e : xs.drop k = xs.getD k 0 :: xs.drop (k + 1) := by
   rw [List.drop_eq_getElem_cons (by omega : k < xs.length), List.getD_eq_getElem?_getD, List.getElem?_eq_getElem (by omega : k < xs.length)]; rfl
  rw [e, runL, if_neg (show ¬ (Ca S (runK S f xs k) (xs.getD k 0)).op = 0 from h k U)]; rfl
theorem Run_ok (w : World) (M : Option Addr) (C : Nat) (S : List Sgn) (v : Value) (f : Fml) (la : Option Addr) (lc : Nat) (xs : List Int) (hS : SlAt sgnR AZ w (.slice M S.length C) S) (hf : FAt AZ w v f) (D : GF w) (X : KY w) (Z : 10 ≤ w.heap.size)
  (a4 : Sl AZ w (.slice la xs.length lc) xs.length (xs.map (iV))) :
  Fn Zp 22 [.slice M S.length C, v, .slice la xs.length lc] w fun u w' => Ext w w' ∧ FAt (fun b => w.heap.size ≤ b ∧ Unm w' b) w' u (Db S f xs) := by
 obtain ⟨c, rfl, a7, n⟩ := hf.cells;obtain ⟨x0, x1, x2, x3, x4, rfl⟩ := AX a7;have b5 : xs.length ≤ 9223372036854775807 := by obtain ⟨_, _, hv, g1, g2, _⟩ := id a4; cases hv; omega
 refine AG Tryz.func22 rfl Tryz.ntmps22 (go ?_);refine Aj (L := [x0, x1, x2, x3, x4]) rfl (fun w1 n1 => ?_);refine AQ (L := zero5) (fun w2 V => go ?_);have z1 := n1.size;have z2 := V.size;have l := n1.E.trans V.E;have b1 : Blk w2 w.heap.size 36 [x0, x1, x2, x3, x4] := n1.D.E V.E O;have b2 := V.D;have hp : PF AZ w2 w.heap.size 0 f := ⟨trivial, _, rfl, b1.cells, hf.ext l⟩;refine go ?_;refine AC (pfits_ok w2 M C S w.heap.size 0 f (hS.ext l) hp (D.ext l) (X.E l O) (Nat.le_trans Z l.size)) rfl ?_;rintro _ Q ⟨rfl, g⟩;have z := l.trans g;have z3 := g.size;have a0 := b2.E g O;unfold Db;cases hfit : fitsB S f with
 | false =>
  rw [if_neg Bool.false_ne_true];refine go ?_;refine AE (cs := zero5) rfl rfl rfl (AU rfl) a0 Dp (fun w9 a => go ?_);exact AT rfl rfl rfl a.D.cells ⟨z.E a.E Dl, FAt.leaf _ _ 0 [] 0 0⟩
 | true =>
  rw [if_pos rfl];refine go ?_;have b13 := b1.E g O;refine go ?_;refine AC (BL Q _ f (hf.ext z) (D.ext z) (X.E z O) (Nat.le_trans Z z.size)) rfl ?_;rintro u w4 ⟨k4, f4⟩;obtain ⟨d, rfl, A, n⟩ := f4.cells;obtain ⟨F, H, m, I, p, rfl⟩ := AX A;refine AQ (L := zero5) (fun w5 n5 => ?_);refine AE (cs := [F, H, m, I, p]) rfl rfl rfl n n5.D Dp (fun o p6 => go ?_);have R : Ext w4 o := n5.E.E p6.E O;have e6 := (z.trans k4).trans R;have z4 := k4.size;have z5 := n5.size;have z6 := p6.size;obtain ⟨r, a3⟩ : ∃ t, t = w4.heap.size := ⟨_, rfl⟩;have a6 : Blk o r 36 [F, H, m, I, p] := by rw [a3]; exact p6.D
  have a5 := (a0.E k4 O).E R O;have f6 : FAt (fun b => (Q.heap.size ≤ b ∧ b ≠ r) ∧ Unm o b) o (.agg [F, H, m, I, p].toArray) (BV f) := ((f4.lt).ext R).mono fun y K => ⟨⟨K.1.1, by have := K.2; omega⟩, K.1.2.eq (R.block y K.2 O)⟩;rw [← a3];refine go ?_
  refine Ah (α := Nat × LV) (fun y => [(0, .slice M S.length C), (6, pt w1.heap.size), (7, pt r), (16, .slice la xs.length lc), (17, iV (xs.length : Int)), (18, iV (y.1 : Int))])
   (fun y W => y.1 ≤ xs.length ∧ Ext w W ∧ o.heap.size ≤ W.heap.size ∧ Blk W w1.heap.size 36 zero5 ∧ Blk W r 36 y.2 ∧ y.2.length = 5 ∧ FAt (fun b => (Q.heap.size ≤ b ∧ b ≠ r) ∧ Unm W b) W (.agg y.2.toArray) (runK S f xs y.1) ∧ ∀ i, i < y.1 → (runK S f xs (i + 1)).op ≠ 0) (fun y => xs.length - y.1) (0, [F, H, m, I, p]) ⟨rfl, rfl, rfl, rfl, rfl, rfl, trivial⟩
   ⟨by simp, e6, Nat.le_refl _, a5, a6, rfl, f6, fun i hi => absurd hi O⟩ ?_
  rintro ⟨k, d⟩ W fr ⟨hk, T, zW, bW, e, h5, q, B⟩;simp only at hk e h5 q B;obtain ⟨F, H, m, I, p, rfl⟩ := AX h5;have b4 : r < W.heap.size := e.lt;refine go ?_;by_cases a1 : k < xs.length
  ·refine go ?_;obtain ⟨x, hx⟩ : ∃ x, xs[k]? = some x := ⟨_, List.getElem?_eq_getElem a1⟩;have hxg : xs.getD k 0 = x := by rw [List.getD_eq_getElem?_getD, hx]; rfl
   obtain ⟨a', c', e', _, _, _, h4⟩ := id a4;cases e';obtain ⟨lb, lo, rfl, _, b0⟩ := h4.resolve_left U;have b3 : W.cell? ⟨lb, lo + k, none⟩ = some (iV x) := T.cell (b0 k _ (by rw [List.getElem?_map, hx]; rfl)) O;refine go ?_;refine AC (Step_ok W M C S _ _ x (hS.ext T) (q.mono fun _ _ => trivial) (D.ext T) (X.E T O) (Nat.le_trans Z T.size)) rfl ?_;rintro u w7 ⟨E, f7⟩;obtain ⟨d, rfl, A, n⟩ := f7.cells;obtain ⟨v0, G, N, P, j, rfl⟩ := AX A;have c7 := e.E E O;refine AE (cs := [v0, G, N, P, j]) rfl rfl rfl n c7 O (fun s h => go ?_);have c8 : Blk s r 36 [v0, G, N, P, j] := h.D;have e8 : Ext w s := (T.trans E).E h.E Dl;have b8 := (bW.E E O).E h.E Dl;have z7 := E.size;have z8 := h.size;have a2 : runK S f xs (k + 1) = Ca S (runK S f xs k) x := by rw [runK, hxg]
   have f8 : FAt (fun b => (Q.heap.size ≤ b ∧ b ≠ r) ∧ Unm s b) s (.agg [v0, G, N, P, j].toArray) (runK S f xs (k + 1)) := by
    rw [a2];exact (f7.unm h.E (fun y K hm => by rw [List.mem_singleton] at hm; omega)).mono fun y K => ⟨⟨by omega, by omega⟩, K.2⟩
   obtain ⟨av, ev, _⟩ := f8.form;simp only [Value.agg.injEq, List.toArray_eq_iff, List.cons.injEq, and_true] at ev;obtain ⟨rfl, _⟩ := ev;have a8 : xs.drop k = x :: xs.drop (k + 1) := by rw [List.drop_eq_getElem_cons a1]; congr 1; exact (List.getElem?_eq_some_iff.1 hx).2
   by_cases h0 : (runK S f xs (k + 1)).op = 0
   ·refine go ?_;refine AE (cs := zero5) rfl rfl rfl (AU rfl) b8 Dp (fun w9 a => go ?_)
    have hr : runL S (BV f) xs = Ae := by
     rw [runL_K S f xs k hk B, a8, runL, ← a2, if_pos h0]
    rw [hr];exact AT rfl rfl rfl a.D.cells ⟨e8.E a.E Dl, FAt.leaf _ _ 0 [] 0 0⟩
   ·refine go ?_;refine ⟨(k + 1, [iV (runK S f xs (k + 1)).op, G, N, P, j]), ⟨rfl, ⟨rfl, rfl, rfl, rfl, rfl, ?_, trivial⟩, ⟨by simp only; omega, e8, by omega, b8, c8, rfl, f8, fun i hi => ?_⟩⟩, by simp only; omega⟩
    ·show iV ((k : Int) + 1) = _;rw [Int.natCast_add]; rfl
    ·simp only at hi;by_cases a9 : i = k
     ·subst a9; exact h0
     ·exact B i U
  ·refine go ?_;obtain rfl : k = xs.length := by omega
   have hr : runL S (BV f) xs = runK S f xs xs.length := by rw [runL_K S f xs xs.length hk B, List.drop_length]; rfl
   rw [hr];refine go ?_;refine AE (cs := [F, H, m, I, p]) rfl rfl rfl q.one bW Dp (fun w9 a => go ?_);exact AT rfl rfl rfl a.D.cells ⟨T.E a.E Dl, (q.unm a.E (fun y K hm => by rw [List.mem_singleton] at hm; omega)).mono fun y K => ⟨by omega, K.2⟩⟩

section
variable {P : Program} {all : Array Oper} {Z : Fr → DS → List PanicEntry → World → Prop} {K : Fr → DS → World → Prop} {rest : List Oper} {f : Fr} {ds : DS} {w : World}
 {d : Nat} {ty : TypeId} {pos : String} {af : Array Edge}
theorem W_make0 {T e a : Nat} {z : Value} {l c : Operand} {k H : IntKind} {n : Nat} {N M : Int} [hT : SlT P T e 1 a z] (q : z.cells = #[z]) (o : ev f l = .int k N) (m : ev f c = .int H M) (g : N = 0) (V : M = (n : Int)) (S : a * n ≤ 281474976710656) (A : n ≤ 9223372036854775807)
  (h : ∀ w', New w w' e (List.replicate n z) → w'.ownsRow w.heap.size e 1 (.slice (sm w.heap.size) 0 n) 0 [] → AO P all Z K rest (upd f d (.slice (sm w.heap.size) 0 n)) ds w') :
  AO P all Z K (⟨some d, .makeSlice T l c, ty, pos, af, none⟩ :: rest) f ds w := by
 subst g;subst V;obtain ⟨i, F, u, p, L⟩ := hT.out
 have j : (i.bytes : Int) * (n : Int) ≤ 281474976710656 := by
  rw [L];have h : ((a * n : Nat) : Int) ≤ 281474976710656 := by omega
  rwa [Int.natCast_mul] at h
 have B := run_make (P := P) w T e i z hT.und F u k H 0 n U U j U
 have b : New w (w.alloc (.cells (madeCells z.cells (n * 1)).toList.toArray e)) e (List.replicate n z) := by
  have := New.mk_alloc w (madeCells z.cells (n * 1)).toList e
  rwa [q, Nat.mul_one, toList_madeCells_one] at this ⊢
 refine Aq (v := .slice (sm w.heap.size) 0 n) (w' := w.alloc (.cells (madeCells z.cells (n * 1)).toList.toArray e)) rfl ?_ (h _ b ⟨by simp, .inr ⟨w.heap.size, n, (List.replicate n z).toArray, rfl, Nat.le_refl _, b.D, by omega, by unfold maxLen; omega, by simp, by simp⟩⟩);simp [execOp, o, m, B, p]
end
section
variable {mk : Prop} [MK mk]
open Go.ChangeMaps (setBlock)
attribute [local semireducible] WC AO Bi BH Be Cq DN BU
variable {P : Program} {all : Array Oper} {Z : Fr → DS → List PanicEntry → World → Prop} {K : Fr → DS → World → Prop} {rest : List Oper} {f : Fr} {ds : DS} {w : World}
 {d : Nat} {ty : TypeId} {pos : String} {af : Array Edge}
theorem W_max {x y : Operand} {a b : Int} {e c : TypeId} (V : ev f x = iV a) (g : ev f y = iV b) (h : AO P all Z K rest (upd f d (iV (max a b))) ds w) :
  AO P all Z K (⟨some d, .call ⟨.builtin .max, #[x, y], #[e, c]⟩, ty, pos, af, none⟩ :: rest) f ds w := by
 refine Aq rfl ?_ h;simp [execOp, resolve, invoke, builtin, V, g, Builtin.max_, Builtin.max2]
 split <;> omega
end

theorem set_fill {α : Type} (A : List α) (z v : α) (n i : Nat) (G : A.length = i) (F : i < n) : (A ++ List.replicate (n - i) z).set i v = (A ++ [v]) ++ List.replicate (n - (i + 1)) z := by
 obtain ⟨m, a⟩ : ∃ m, n - i = m + 1 := ⟨n - i - 1, by omega⟩;rw [a, List.replicate_succ, List.set_append_right _ _ U, G, Nat.sub_self, List.set_cons_zero, show n - (i + 1) = m by omega, List.append_assoc];rfl
def RwsAt (W : World) (B : Nat) (d : Option Nat) (vs : LV) (S : List Sgn) (xs : List Int) : Prop := vs.length = xs.length ∧ ∀ (k : Nat) (u : Value) (x : Int), vs[k]? = some u → xs[k]? = some x → ∃ g, u = .slice (sm g) S.length S.length ∧ B ≤ g ∧ some g ≠ d ∧ Blk W g 3 (valsC S x S.length)



abbrev mvT (F : FuncId) (l : LV) : Value := .func (.func F) #[] l.toArray
def lawT (G Z : Nat) : List (Int × Value) := [(1, mvT 205 [pt Z]), (2, mvT 206 [pt Z]), (3, mvT 207 [pt G]), (4, mvT 210 [pt G]), (5, mvT 212 [pt G]), (6, mvT 215 [pt G]), (7, mvT 217 [pt G]), (8, mvT 219 [pt G]), (9, mvT 221 [pt G]), (10, mvT 223 [pt G]), (11, mvT 225 [pt G, pt Z]), (12, mvT 226 [pt G, pt Z]), (13, mvT 227 [pt G]), (14, mvT 230 [pt G]), (15, mvT 232 [pt G]), (16, mvT 234 [pt G]), (17, mvT 236 [pt G]), (18, mvT 238 [pt G, pt Z]), (19, mvT 239 [pt G, pt Z])]
instance : VMapT Zp 226 .nilFunc := vmapT_of Tryz.underlying226 Tryz.underlying3 Dk

section
variable {mk : Prop} [MK mk]
theorem D_leaf {P : Program} {ops : Array Oper} {Z : Fr → DS → List PanicEntry → World → Prop} {K : Fr → DS → World → Prop} {S : World → Prop} {T : DT} {f : Fr} {ds : DS} {w : World} {α : Type} (t : DT) (L : α → List (Nat × Value)) (I : α → World → Prop)
  (X : ∀ x g w', I x w' → BX P ops Z K t S (ov (L x) g) ds w') (W : (∀ x g w', agr (L x) g → I x w' → BX P ops Z K t S g ds w') → BX P ops Z K T S f ds w) : BX P ops Z K T S f ds w :=
 W fun x g w' H E => by have := X x g w' E; rwa [ov_of_agr H] at this
def Ci (N : Int) : Int := if N = 7 ∨ N = 13 then 6 else if N = 14 then 5 else if N = 11 then 9 else if N = 12 then 10 else if N = 18 then 16 else if N = 19 then 17 else N
theorem full_ok (w : World) (N : Int) : Fn Zp 125 [iV N] w fun u w' => u = iV (Ci N) ∧ w' = w := by
 unfold Ci;refine AG Tryz.func125 rfl Tryz.ntmps125 (go ?_);by_cases m : N = 7
 ·rw [if_pos (.inl m)];exact EU
 ·by_cases a : N = 13
  ·rw [if_pos (.inr a)];exact EU
  ·rw [if_neg U];refine go ?_;by_cases c : N = 14
   ·rw [if_pos c];exact EU
   ·rw [if_neg c];refine go ?_;by_cases k : N = 11
    ·rw [if_pos k];exact EU
    ·rw [if_neg k];refine go ?_;by_cases z : N = 12
     ·rw [if_pos z];exact EU
     ·rw [if_neg z];refine go ?_;by_cases p : N = 18
      ·rw [if_pos p];exact EU
      ·rw [if_neg p];refine go ?_;by_cases o : N = 19
       ·rw [if_pos o];exact EU
       ·rw [if_neg o];exact EU
theorem own_nil (w : World) (B e : Nat) : w.ownsRow B e 5 (.slice none 0 0) 0 [] := ⟨rfl, .inl ⟨rfl, rfl⟩⟩
theorem own_set {w : World} {B n c : Nat} {T : TypeId} {d : LV} {i : Value} {xs cs : LV} (f : w.ownsRow B 36 5 i (n + 1) (xs ++ zero5)) (V : xs.length = n * 5) (A : cs.length = 5) (S : Blk w c T d) (q : ∀ g, i.ownBlock = some g → g ≠ c) : ∃ g cap M, i = .slice (sm g) (n + 1) cap ∧ B ≤ g ∧ Blk w g 36 M ∧ n * 5 + 5 ≤ M.length ∧
  (∀ Q L, Put w Q g 36 (splice M (n * 5) cs) → Put Q L c T (d.set 4 i) → Keep [g, c] w L ∧ Blk L c T (d.set 4 i) ∧ L.ownsRow B 36 5 i (n + 1) (xs ++ cs)) ∧
  (∀ Q L, Put w Q c T (d.set 4 i) → Put Q L g 36 (splice M (n * 5) cs) → Keep [g, c] w L ∧ Blk L c T (d.set 4 i) ∧ L.ownsRow B 36 5 i (n + 1) (xs ++ cs)) := by
 obtain ⟨g, cap, M, rfl, z, b, p, t⟩ := own_last f V A;have j : c ≠ g := fun e => q g rfl e.symm
 refine ⟨g, cap, M, rfl, z, b, p, fun Q L r s => ⟨(r.E.mono fun x h => by simp at h; simp [h]).trans s.E fun x h _ => by simp at h; simp [h], s.D, Ad (t Q r) s.E fun a l => by cases l; simpa using j.symm⟩,
  fun Q L r s => ⟨(r.E.mono fun x h => by simp at h; simp [h]).trans s.E fun x h _ => by simp at h; simp [h], r.D.E s.E (by simpa using j), ?_⟩⟩
 obtain ⟨a, v, m, o, _, k, _, u⟩ := own_last (Ad f r.E fun a l => by cases l; simpa using j.symm) V A;cases o
 obtain rfl : m = M := by
  have X := b.E r.E (by simpa using j.symm);unfold Blk at X k;rw [X] at k;have := Option.some.inj k;simpa using (Obj.cells.inj this).1.symm
 exact u L s
theorem own_snoc {w : World} {B : Nat} {v : Value} {a : LF} {r : Fml} {L0 : List (LV)} {cs : LV} (h : w.ownsRow B 36 5 v (a.length + 1) (L0.flatten ++ cs)) : w.ownsRow B 36 5 v (a ++ [r]).length (L0 ++ [cs]).flatten := by
 rw [List.length_append, List.flatten_append];simpa using h
end
section
variable {mk : Prop} [MK mk]
end


theorem capped_ok : ∀ (N : Nat) (f : Fml), szF f ≤ N → ∀ (w : World) (v : Value) (l : Nat), l ≤ 1000000 → FAt AZ w v f → Fn Zp 88 [v, iV (l : Int)] w fun u w' => u = iV ((min (szF f) (l + 1) : Nat) : Int) ∧ Ext w w' := by
 intro N
 induction N with
 | zero => intro f t; have := szF_pos f; omega
 | succ N ih =>
 intro f t w v l hl I;obtain ⟨D, rfl, L, h, b⟩ := I.form;obtain ⟨a, c, rfl, z⟩ := id h;have Z : f.args.length ≤ 9223372036854775807 := by obtain ⟨R, o, _⟩ := z; omega
 have a2 := Bd f;refine AG Tryz.func88 rfl Tryz.ntmps88 (go ?_);refine Aj (L := fcC f (.slice a f.args.length c)) rfl (fun Q E => ?_);have q := E.D;have F := E.E;have r : Q.cell? ⟨w.heap.size, 0 + 4, none⟩ = some (.slice a f.args.length c) := q.cell rfl;refine go ?_;refine Ah (α := Nat) (fun k => [(1, iV (l : Int)), (2, pt w.heap.size), (5, iV ((min (1 + szL (f.args.take k)) (l + 1) : Nat) : Int)), (6, iV (k : Int))]) (fun k W => k ≤ f.args.length ∧ Ext Q W) (fun k => f.args.length - k) 0 ⟨rfl, rfl, congrArg (Value.int .i64) (by simp [szL]; try omega), rfl, trivial⟩ ⟨by simp, Ext.refl _⟩ ?_;rintro k p M ⟨P, j⟩;have K := j.cell r O;have T := F.trans j
 have a3 : szL (f.args.take k) ≤ szL f.args := by
  have : ∀ l m : LF, szL (l ++ m) = szL l + szL m := by
   intro l
   induction l with
   | nil => intro m; simp [szL]
   | cons a l ih2 => intro m; simp only [List.cons_append, szL, ih2 m]; omega
  have o := this (f.args.take k) (f.args.drop k);rw [List.take_append_drop] at o;omega
 refine go ?_;generalize B : min (1 + szL (f.args.take k)) (l + 1) = n;by_cases y : k < f.args.length
 ·by_cases a1 : n ≤ l
  ·refine go ?_;obtain ⟨x, V⟩ : ∃ x, f.args[k]? = some x := ⟨_, List.getElem?_eq_getElem y⟩;obtain ⟨i, G⟩ : ∃ i, L[k]? = some i := ⟨_, List.getElem?_eq_getElem (by rw [b.1]; exact y)⟩;obtain ⟨H, oa, rfl, S, d⟩ := h.fml b.2.1 G y;have a4 := Bq (List.mem_of_getElem? V);have X : FAt AZ p (.agg i.toArray) x := (b.2.2 k i x G V).ext T;have A := d.E T O
   have C : szL (f.args.take (k + 1)) = szL (f.args.take k) + szF x := by
    rw [List.take_add_one, V]
    have : ∀ l : LF, szL (l ++ [x]) = szL l + szF x := by
     intro l
     induction l with
     | nil => simp [szL]
     | cons a l ih2 => simp only [List.cons_append, szL, ih2]; omega
    exact this _
   refine go ?_;refine AR (L := i) rfl (b.2.1 i (List.mem_of_getElem? G)) A (go ?_);have s : (l : Int) - (n : Int) = ((l - n : Nat) : Int) := by omega
   rw [s];refine AC (ih x U p _ (l - n) U X) rfl ?_;rintro _ w3 ⟨rfl, g⟩;have a0 : min (szF x) (l - n + 1) ≤ l + 1 := by omega
   refine go ?_;refine ⟨k + 1, ⟨rfl, ⟨rfl, rfl, ?_, ?_, trivial⟩, ⟨y, j.trans g⟩⟩, by omega⟩
   ·refine congrArg (Value.int .i64) ?_;rw [C];show (n : Int) + ((min (szF x) (l - n + 1) : Nat) : Int) = _;omega
   ·show iV ((k : Int) + 1) = _;rw [Int.natCast_add]; rfl
  ·refine go ?_;refine AA rfl ⟨congrArg (Value.int .i64) ?_, T⟩;omega
 ·have e : k = f.args.length := by omega
  subst e;rw [List.take_length] at B;refine go ?_;refine AA rfl ⟨congrArg (Value.int .i64) ?_, T⟩;omega
theorem rsmall_ok (w : World) (v : Value) (f : Fml) (l : Nat) (M : l ≤ 1000000) (I : FAt AZ w v f) : Fn Zp 54 [v, iV (l : Int)] w fun u w' => u = .bool (decide (szF f ≤ l)) ∧ Ext w w' := by
 obtain ⟨D, rfl, L, c, b⟩ := I.form;refine AG Tryz.func54 rfl Tryz.ntmps54 (go ?_);refine Aj (L := fcC f D) rfl (fun Q E => ?_);have k := E.D;have X := E.E;refine go ?_;refine AC (capped_ok _ f (Nat.le_refl _) Q _ l M (I.ext X)) rfl ?_;rintro _ d ⟨rfl, a⟩;by_cases h : szF f ≤ l
 ·refine go ?_;exact AA rfl ⟨congrArg Value.bool (by simp [h]), X.trans a⟩
 ·refine go ?_;exact AA rfl ⟨congrArg Value.bool (by simp [h]), X.trans a⟩
theorem in_ok (w : World) (v : Value) (l : List (LU)) (s : LU) (C : Sl AZ w v l.length (l.map AI)) : Fn Zp 113 [v, AI s] w fun v w' => v = .bool (decide (s ∈ l)) ∧ w' = w := by
 obtain ⟨a, c, rfl, B, i, _, D⟩ := C;refine AG Tryz.func113 rfl Tryz.ntmps113 (go ?_);refine Ah (α := Nat) (fun k => [(0, .slice a l.length c), (1, AI s), (5, iV (k : Int))]) (fun k W => k ≤ l.length ∧ s ∉ l.take k ∧ W = w) (fun k => l.length - k) 0 ⟨rfl, rfl, rfl, trivial⟩ ⟨by omega, by simp, rfl⟩ ?_;rintro k L h ⟨P, G, rfl⟩;repeat refine nx rfl ?_
 by_cases g : k < l.length
 ·obtain ⟨b, o, rfl, _, f⟩ := D.resolve_left U;obtain ⟨y, K⟩ : ∃ y, l[k]? = some y := ⟨_, List.getElem?_eq_getElem g⟩;have j : L.cell? ⟨b, o + k, none⟩ = some (AI y) := f k _ (by simp [K]);have p : l.take (k + 1) = l.take k ++ [y] := by rw [List.take_add_one, K]; rfl
  refine AJ (Af rfl (Az rfl (CD rfl (W_lssT rfl rfl U ?_))));repeat refine nx rfl ?_
  by_cases d : y = s
  ·(refine AJ (Az rfl (Af rfl (W_idx1 rfl rfl rfl U (AM rfl Do ?_)))) <;> refine CK rfl ?_ <;> refine W_seql rfl rfl (fun T => ?_) (fun T => ?_) <;> refine AH ?_)
   case refine_2 => exact absurd d Do
   repeat refine nx rfl ?_
   refine AJ (Ac (AP rfl ?_));repeat refine nx rfl ?_
   exact AA rfl ⟨by rw [decide_eq_true (List.mem_of_getElem? (d ▸ K) : s ∈ l)]; rfl, rfl⟩
  ·(refine AJ (Az rfl (Af rfl (W_idx1 rfl rfl rfl U (AM rfl Do ?_)))) <;> refine CK rfl ?_ <;> refine W_seql rfl rfl (fun T => ?_) (fun T => ?_) <;> refine AH ?_)
   case refine_1 => exact absurd Do d
   refine go ?_;refine ⟨k + 1, ⟨rfl, ⟨rfl, rfl, ?_, trivial⟩, ⟨by omega, by rw [p]; simp [G]; exact fun e => d e.symm, rfl⟩⟩, by omega⟩;show iV ((k : Int) + 1) = _;rw [Int.natCast_add]; rfl
 ·obtain rfl : k = l.length := by omega
  refine go ?_;rw [List.take_length] at G;exact AA rfl ⟨by rw [decide_eq_false G]; rfl, rfl⟩
theorem keywords_ok (w : World) : Fn Zp 114 [] w fun v w' => Sl AZ w' v keysL.length (keysL.map AI) ∧ Ext w w' := by
 refine AG Tryz.func114 rfl Tryz.ntmps114 (go ?_);refine Ce (out := keysL.map AI) rfl U rfl Dk (fun Q E => go ?_);exact AA rfl ⟨⟨_, _, rfl, by decide, by decide, (fun h => by cases h), .inr ⟨_, _, rfl, trivial, E.D.cells⟩⟩, E.E⟩
theorem refName_ok (s : LU) (w : World) : Fn Zp 66 [AI s] w fun v w' => v = .bool (CJ s) ∧ Ext w w' := by
 refine AG Tryz.func66 rfl Tryz.ntmps66 (go ?_);by_cases p : s.length < 1
 ·refine go ?_;exact AA rfl ⟨by rw [DH, decide_eq_false (show ¬ 1 ≤ s.length by omega)]; rfl, Ext.refl _⟩
 by_cases z : 12 < s.length
 ·refine go ?_;exact AA rfl ⟨by rw [DH, decide_eq_false (show ¬ s.length ≤ 12 by omega)]; simp [upd, Nat.beq], Ext.refl _⟩
 refine go ?_;refine AC (keywords_ok w) rfl ?_;rintro v Q ⟨g, b⟩;obtain ⟨t, n, rfl, _⟩ := id g;refine go ?_;refine AC (in_ok Q _ keysL s g) rfl ?_;rintro _ Z ⟨rfl, u⟩;obtain rfl := u.symm;refine go ?_;by_cases X : s ∈ keysL
 ·rw [decide_eq_true X];refine go ?_;exact AA rfl ⟨by rw [DH, decide_eq_true X]; simp [upd, Nat.beq], b⟩
 rw [decide_eq_false X];refine go ?_;refine Ah (α := Nat) (fun k => [(0, AI s), (3, iV (k : Int))]) (fun k W => k ≤ s.length ∧ (∀ (i : Nat) (c : UInt8), i < k → s[i]? = some c → okAt i c = true) ∧ W = Q) (fun k => s.length - k) 0 ⟨rfl, rfl, trivial⟩ ⟨by omega, fun i c F => by omega, rfl⟩ ?_;rintro k L l ⟨P, f, rfl⟩;repeat refine nx rfl ?_
 by_cases y : k < s.length
 ·have G : s[k]? = some s[k] := List.getElem?_eq_getElem y;generalize s[k] = c at G;have B := c.toNat_lt
  have V : okAt k c = true → ∀ (i : Nat) (d : UInt8), i < k + 1 → s[i]? = some d → okAt i d = true := fun j i d F C => by
   by_cases x : i = k
   ·subst x; rw [G] at C; cases C; exact j
   ·exact f i d U C
  refine AJ (Af rfl (CK rfl (W_slen rfl (W_lssT rfl rfl U ?_))));repeat refine nx rfl ?_
  refine C_mid (α := Unit) (fun _ => [(0, AI s), (3, iV (k : Int)), (4, .bool (BZ c))]) (fun _ W => L = W) ?_ ?_
  ·by_cases H : 97 ≤ c.toNat
   ·by_cases S : c.toNat ≤ 122
    ·rw [show BZ c = true by simp [BZ, H, S]];refine go ?_;exact Aw () ⟨rfl, rfl, rfl, trivial⟩ rfl
    ·rw [show BZ c = false by simp [BZ, H, S]];refine go ?_;exact Aw () ⟨rfl, rfl, rfl, trivial⟩ rfl
   ·rw [show BZ c = false by simp [BZ, H]];refine go ?_;exact Aw () ⟨rfl, rfl, rfl, trivial⟩ rfl
  rintro _ _ m rfl;repeat refine nx rfl ?_
  refine C_mid (α := Unit) (fun _ => [(0, AI s), (3, iV (k : Int)), (4, .bool (BZ c)), (5, .bool (A8 c || decide (c.toNat = 95)))]) (fun _ W => L = W) ?_ ?_
  ·by_cases H : 48 ≤ c.toNat
   ·by_cases S : c.toNat ≤ 57
    ·rw [show (A8 c || decide (c.toNat = 95)) = true by simp [A8, H, S]];exact FD
    ·by_cases r : c.toNat = 95
     ·rw [show (A8 c || decide (c.toNat = 95)) = true by simp [r]];exact FD
     ·rw [show (A8 c || decide (c.toNat = 95)) = false by simp [A8, r, H, S]];exact FD
   ·rw [show (A8 c || decide (c.toNat = 95)) = false by simp [A8, H]; omega];exact FD
  rintro _ _ I rfl;refine go ?_
  have o : okAt k c = false → CJ s = false := fun h => by
   have e : shapeB s = false := by
    cases hsb : shapeB s with
    | false => rfl
    | true => rw [(shapeB_iff s U).1 hsb k c G] at h; cases h
   rw [DH, e]; simp
  have a : okAt k c = (BZ c || (decide (0 < k) && (A8 c || decide (c.toNat = 95)))) := rfl;cases hsm : BZ c with
  | true =>
   refine go ?_;refine ⟨k + 1, ⟨rfl, ⟨rfl, ?_, trivial⟩, ⟨by omega, V (by rw [a, hsm]; rfl), rfl⟩⟩, by omega⟩;show iV ((k : Int) + 1) = _;rw [Int.natCast_add]; rfl
  | false =>
   by_cases q : k = 0
   ·have S := o (by rw [a, hsm, decide_eq_false (show ¬ 0 < k by omega)]; rfl);refine go ?_;exact AA rfl ⟨by rw [S]; rfl, b⟩
   ·cases hrs : (A8 c || decide (c.toNat = 95)) with
    | true =>
     refine go ?_;refine ⟨k + 1, ⟨rfl, ⟨rfl, ?_, trivial⟩, ⟨by omega, V (by rw [a, hsm, hrs, decide_eq_true (show 0 < k by omega)]; rfl), rfl⟩⟩, by omega⟩;show iV ((k : Int) + 1) = _;rw [Int.natCast_add]; rfl
    | false =>
     have S := o (by rw [a, hsm, hrs]; simp);refine go ?_;exact AA rfl ⟨by rw [S]; rfl, b⟩
 ·obtain rfl : k = s.length := by omega
  have e : shapeB s = true := (shapeB_iff s U).2 fun i c T => f i c (List.getElem?_eq_some_iff.1 T).1 T;refine go ?_;exact AA rfl ⟨by rw [DH, e, decide_eq_false X, decide_eq_true (show 1 ≤ s.length by omega), decide_eq_true (show s.length ≤ 12 by omega)]; rfl, b⟩
theorem find_hit {l : List Sgn} {s : LU} {k : Nat} {x : Sgn} (V : l[k]? = some x) (G : x.name = s) (a : ∀ j y, j < k → l[j]? = some y → y.name ≠ s) : Dg l s = (k : Int) := by
 have : l.findIdx? (fun x => decide (x.name = s)) = some k := by
  rw [List.findIdx?_eq_some_iff_getElem];obtain ⟨X, W⟩ := List.getElem?_eq_some_iff.1 V;refine ⟨X, by simp [W, G], fun j m => ?_⟩;have := a j l[j] m (List.getElem?_eq_getElem U);simpa using this
 unfold Dg;rw [this]
theorem find_miss {l : List Sgn} {s : LU} (a : ∀ j y, j < l.length → l[j]? = some y → y.name ≠ s) : Dg l s = -1 := by
 have : l.findIdx? (fun x => decide (x.name = s)) = none := by
  rw [List.findIdx?_eq_none_iff];intro x V;obtain ⟨i, F⟩ := List.getElem?_of_mem V;simpa using a i x (List.getElem?_eq_some_iff.1 F).1 F
 unfold Dg;rw [this]
theorem find_at {l : List Sgn} {s : LU} {k : Nat} (h : Dg l s = (k : Int)) : ∀ j y, j < k → l[j]? = some y → y.name ≠ s := by
 unfold Dg at h;cases hf : l.findIdx? (fun x => decide (x.name = s)) with
 | none => rw [hf] at h; simp at h
 | some i =>
  rw [hf] at h;simp only at h;obtain rfl : i = k := by omega
  rw [List.findIdx?_eq_some_iff_getElem] at hf;obtain ⟨X, W, R⟩ := hf;intro j y a K;have := R j a;rw [(List.getElem?_eq_some_iff.1 K).2] at this;simpa using this
theorem rfind_ok (w : World) (v : Value) (l : List Sgn) (s : LU) (h : SlAt sgnR AZ w v l) : Fn Zp 67 [v, AI s] w fun v w' => v = iV (Dg l s) ∧ w' = w := by
 have f := h;obtain ⟨a, c, rfl, I⟩ := h.len;refine AG Tryz.func67 rfl Tryz.ntmps67 (go ?_);refine Ah (α := Nat) (fun k => [(0, .slice a l.length c), (1, AI s), (5, iV (k : Int))]) (fun k W => k ≤ l.length ∧ W = w ∧ ∀ j y, j < k → l[j]? = some y → y.name ≠ s) (fun k => l.length - k) 0 ⟨rfl, rfl, rfl, trivial⟩ ⟨by omega, rfl, fun j y d => absurd d U⟩ ?_;rintro k u Q ⟨P, rfl, d⟩;repeat refine nx rfl ?_
 by_cases i : k < l.length
 ·obtain ⟨y, K⟩ : ∃ y, l[k]? = some y := ⟨_, List.getElem?_eq_getElem i⟩;obtain ⟨_, b, o, rfl, _, g⟩ := f.sig K;have X : u.cell? ⟨b, o + k * 3 + 0, none⟩ = some (AI y.name) := g 0 _ rfl;refine AJ (Af rfl (Az rfl (CD rfl (W_lssT rfl rfl U ?_))));repeat refine nx rfl ?_
  by_cases e : y.name = s
  ·(refine AJ (Az rfl (Af rfl (C5 rfl rfl rfl U (AF rfl (AM rfl Do ?_))))) <;> refine CK rfl ?_ <;> refine W_seql rfl rfl (fun T => ?_) (fun T => ?_) <;> refine AH ?_)
   case refine_2 => exact absurd e Do
   repeat refine nx rfl ?_
   refine AJ (Af rfl (Ac (Af rfl ?_)));repeat refine nx rfl ?_
   exact AA rfl ⟨by rw [find_hit K e d]; rfl, rfl⟩
  ·(refine AJ (Az rfl (Af rfl (C5 rfl rfl rfl U (AF rfl (AM rfl Do ?_))))) <;> refine CK rfl ?_ <;> refine W_seql rfl rfl (fun T => ?_) (fun T => ?_) <;> refine AH ?_)
   case refine_1 => exact absurd Do e
   refine go ?_;refine ⟨k + 1, ⟨rfl, ⟨rfl, rfl, ?_, trivial⟩, ⟨by omega, rfl, fun j z m n => ?_⟩⟩, by omega⟩
   ·show iV ((k : Int) + 1) = _;rw [Int.natCast_add]; rfl
   ·rcases Nat.lt_or_ge j k with h | h
    ·exact d j z h n
    ·obtain rfl : j = k := by omega
     rw [K] at n; cases n; exact e
 ·obtain rfl : k = l.length := by omega
  refine go ?_;exact AA rfl ⟨by rw [find_miss d]; rfl, rfl⟩
theorem rsvalid_ok (w : World) (v : Value) (l : List Sgn) (h : SlAt sgnR AZ w v l) : Fn Zp 25 [v] w fun u w' => u = .bool (A6 l) ∧ Ext w w' := by
 have s := h;obtain ⟨a, c, rfl, a2⟩ := h.len;refine AG Tryz.func25 rfl Tryz.ntmps25 (go ?_);by_cases C : 1 ≤ l.length ∧ l.length ≤ 6
 case neg =>
  have q : A6 l = false := by
   simp only [A6];rw [show (decide (1 ≤ l.length) && decide (l.length ≤ 6)) = false by rw [← Bool.not_eq_true, Bool.and_eq_true, decide_eq_true_eq, decide_eq_true_eq]; exact C];rfl
  rw [q];by_cases h1 : 1 ≤ l.length
  ·exact Eg
  ·exact Eg
 obtain ⟨a0, a1⟩ := C;refine go ?_;refine Ah (α := Nat) (fun k => [(0, .slice a l.length c), (3, iV (BE (l.take k))), (4, iV (k : Int))]) (fun k W => k ≤ l.length ∧ Ext w W ∧ ∀ i, i < k → okI l i = true) (fun k => l.length - k) 0 ⟨rfl, rfl, rfl, trivial⟩ ⟨by omega, Ext.refl _, fun i F => absurd F U⟩ ?_;rintro k Q f1 ⟨hk, X, f⟩;refine go ?_
 have t := prodS_six (l := l.take k) (fun i F => by
  rw [List.length_take] at F;have g : i < k := by omega
  obtain ⟨y, E⟩ : ∃ y, l[i]? = some y := ⟨_, List.getElem?_eq_getElem U⟩;have T : (l.take k)[i]? = some y := by rw [List.getElem?_take, if_pos g]; exact E
  have := (DD E).1 (f i g);refine (DD T).2 ⟨this.1, this.2.1, this.2.2.1, fun j z P n => ?_⟩;rw [List.getElem?_take, if_pos U] at n;exact this.2.2.2 j z P n) (Nat.le_refl _) EF
 rw [List.take_length] at t;by_cases D : k < l.length
 ·refine go ?_;obtain ⟨x, V⟩ : ∃ x, l[k]? = some x := ⟨_, List.getElem?_eq_getElem D⟩;obtain ⟨_, b, o, rfl, _, B⟩ := s.sig V;have G : ∀ W, Ext w W → W.cell? ⟨b, o + k * 3 + 0, none⟩ = some (AI x.name) := fun W e => e.cell (B 0 _ rfl) O;have p : ∀ W, Ext w W → W.cell? ⟨b, o + k * 3 + 2, none⟩ = some (iV x.size) := fun W e => e.cell (B 2 _ rfl) O;have d0 := G Q X;have K : okI l k = true ↔ _ := DD V;have R := prodS_take V;have m : okI l k = false → A6 l = false := valid_false D;refine go ?_;refine AC (refName_ok x.name Q) rfl ?_;rintro _ L ⟨rfl, k2⟩;have d := X.trans k2;have c0 := G L d;have c2 := p L d;cases hnm : CJ x.name with
  | false =>
   have S := m (by rw [← Bool.not_eq_true, K]; simp [hnm]);exact FX
  | true =>
  refine go ?_;refine AC (rfind_ok L _ l x.name (s.ext d)) rfl ?_;rintro _ L ⟨rfl, rfl⟩;by_cases I : Dg l x.name = (k : Int)
  case neg =>
   have S := m (by
    rw [← Bool.not_eq_true, K];intro N;exact I (find_hit V rfl N.2.2.2))
   exact FX
  rw [I];have M := find_at I;by_cases A : 2 ≤ x.size
  case neg =>
   have S := m (by rw [← Bool.not_eq_true, K]; simp [A]);exact FX
  by_cases r : x.size ≤ 4
  case neg =>
   have S := m (by rw [← Bool.not_eq_true, K]; simp [r]);exact FX
  have a3 : 0 ≤ BE (l.take k) * x.size ∧ BE (l.take k) * x.size ≤ 4096 * 4 := ⟨Int.mul_nonneg U U, Int.mul_le_mul t.2 r U U⟩;refine go ?_;refine ⟨k + 1, ⟨rfl, ⟨rfl, ?_, ?_, trivial⟩, ⟨by omega, d, fun i F => ?_⟩⟩, by omega⟩
  ·exact congrArg (Value.int .i64) R.symm
  ·show iV ((k : Int) + 1) = _;rw [Int.natCast_add]; rfl
  ·by_cases g : i = k
   ·subst g; exact K.2 ⟨hnm, A, r, M⟩
   ·exact f i U
 ·obtain rfl : k = l.length := by omega
  rw [List.take_length] at t ⊢;have H : (List.range l.length).all (okI l) = true := by rw [List.all_eq_true]; intro i F; exact f i (List.mem_range.1 F)
  have q : A6 l = decide (BE l ≤ 64) := by simp only [A6, H]; simp; omega
  rw [q];refine go ?_;by_cases Z : BE l ≤ 64
  ·refine go ?_;exact AA rfl ⟨congrArg Value.bool (by simp [Z]), X⟩
  ·refine go ?_;exact AA rfl ⟨congrArg Value.bool (by simp [Z]), X⟩
def Cd (b : Bool) : List Sgn → Int
 | [] => 1
 | x :: l => if x.input = b then Cd b l * x.size else Cd b l
theorem sideS_snoc (b : Bool) : ∀ (l : List Sgn) (x : Sgn), Cd b (l ++ [x]) = if x.input = b then Cd b l * x.size else Cd b l
 | [], x => by simp [Cd]
 | y :: l, x => by
  rw [List.cons_append, Cd, sideS_snoc b l x, Cd];by_cases X : y.input = b <;> by_cases W : x.input = b <;> simp [X, W, Int.mul_right_comm]
theorem sideS_take {b : Bool} {l : List Sgn} {k : Nat} {x : Sgn} (h : l[k]? = some x) : Cd b (l.take (k + 1)) = if x.input = b then Cd b (l.take k) * x.size else Cd b (l.take k) := by
 rw [List.take_add_one, h, ← sideS_snoc]; rfl
theorem side_prod : ∀ l : List Sgn, Cd true l * Cd false l = BE l
 | [] => rfl
 | x :: l => by
  rw [BE, ← side_prod l, Cd, Cd];cases x.input <;> simp [Int.mul_assoc, Int.mul_left_comm, Int.mul_comm]
theorem side_le (b : Bool) : ∀ (l : List Sgn), (∀ x ∈ l, 2 ≤ x.size ∧ x.size ≤ 4) → 1 ≤ Cd b l ∧ Cd b l ≤ BE l
 | [], _ => by simp [Cd, BE]
 | x :: l, h => by
  obtain ⟨X, W⟩ := side_le b l fun y K => h y (by simp [K]);obtain ⟨R, w⟩ := h x O;have P : BE l ≤ BE l * x.size := by have := Int.mul_le_mul_of_nonneg_left (show (1 : Int) ≤ x.size by omega) (show 0 ≤ BE l by omega); omega
  rw [Cd, BE]
  split
  ·have a := Int.mul_le_mul X (show (1 : Int) ≤ x.size by omega) U U;exact ⟨by omega, Int.mul_le_mul_of_nonneg_right W U⟩
  ·omega
theorem side_ok (w : World) (v : Value) (l : List Sgn) (b : Bool) (h : SlAt sgnR AZ w v l) : Fn Zp 71 [v, .bool b] w fun u w' => u = iV (if A6 l then Cd b l else 0) ∧ Ext w w' := by
 have s := h;obtain ⟨a, c, rfl, I⟩ := h.len;refine AG Tryz.func71 rfl Tryz.ntmps71 (go ?_);refine AC (rsvalid_ok w _ l s) rfl ?_;rintro _ Q ⟨rfl, X⟩;cases hv : A6 l with
 | false =>
  exact Eb
 | true =>
 obtain ⟨q, z, f, n⟩ := DI hv;refine go ?_;refine Ah (α := Nat) (fun k => [(0, .slice a l.length c), (1, .bool b), (5, iV (Cd b (l.take k))), (6, iV (k : Int))]) (fun k W => k ≤ l.length ∧ W = Q) (fun k => l.length - k) 0 ⟨rfl, rfl, rfl, rfl, trivial⟩ ⟨by omega, rfl⟩ ?_;rintro k W Z ⟨P, rfl⟩;refine go ?_;by_cases g : k < l.length
 ·obtain ⟨x, V⟩ : ∃ x, l[k]? = some x := ⟨_, List.getElem?_eq_getElem g⟩;obtain ⟨_, r, o, rfl, _, d⟩ := (s.ext X).sig V;have G : W.cell? ⟨r, o + k * 3 + 1, none⟩ = some (.bool x.input) := d 1 _ rfl;have m : W.cell? ⟨r, o + k * 3 + 2, none⟩ = some (iV x.size) := d 2 _ rfl
  have p := side_le b (l.take k) fun y j => by
   obtain ⟨i, F⟩ := List.getElem?_of_mem (List.mem_of_mem_take j);have := (DD F).1 (f i (List.getElem?_eq_some_iff.1 F).1);exact ⟨this.2.1, this.2.2.1⟩
  have L := (prodS_six f P z).2;have K := (DD V).1 (f k g);have t : 0 ≤ Cd b (l.take k) * x.size ∧ Cd b (l.take k) * x.size ≤ 4096 * 4 := ⟨Int.mul_nonneg U U, Int.mul_le_mul U K.2.2.1 U U⟩;have E := sideS_take (b := b) V;refine go ?_;by_cases S : x.input = b
  ·rw [if_pos S] at E;have e : (x.input == b) = true := by simp [S]
   rw [e];refine go ?_;refine ⟨k + 1, ⟨rfl, ⟨rfl, rfl, congrArg (Value.int .i64) E.symm, (by show iV ((k : Int) + 1) = _; rw [Int.natCast_add]; rfl), trivial⟩, ⟨by omega, rfl⟩⟩, by omega⟩
  ·rw [if_neg S] at E;have e : (x.input == b) = false := by simp [S]
   rw [e];refine go ?_;refine ⟨k + 1, ⟨rfl, ⟨rfl, rfl, congrArg (Value.int .i64) E.symm, (by show iV ((k : Int) + 1) = _; rw [Int.natCast_add]; rfl), trivial⟩, ⟨by omega, rfl⟩⟩, by omega⟩
 ·obtain rfl : k = l.length := by omega
  rw [List.take_length];exact Eb
theorem rinputs_ok (w : World) (v : Value) (l : List Sgn) (h : SlAt sgnR AZ w v l) : Fn Zp 29 [v] w fun u w' => u = iV (if A6 l then Cd true l else 0) ∧ Ext w w' := by
 have s := h;obtain ⟨a, c, rfl, I⟩ := h.len;refine AG Tryz.func29 rfl Tryz.ntmps29 (go ?_);refine AC (side_ok w _ l true s) rfl ?_;rintro _ Q ⟨rfl, X⟩;exact Eb
theorem routputs_ok (w : World) (v : Value) (l : List Sgn) (h : SlAt sgnR AZ w v l) : Fn Zp 30 [v] w fun u w' => u = iV (if A6 l then Cd false l else 0) ∧ Ext w w' := by
 have s := h;obtain ⟨a, c, rfl, I⟩ := h.len;refine AG Tryz.func30 rfl Tryz.ntmps30 (go ?_);refine AC (side_ok w _ l false s) rfl ?_;rintro _ Q ⟨rfl, X⟩;exact Eb
theorem rletters_ok (w : World) (v : Value) (l : List Sgn) (h : SlAt sgnR AZ w v l) (q : A6 l = true) : Fn Zp 10 [v] w fun u w' => u = iV (CN l) ∧ Ext w w' := by
 have s := h;obtain ⟨a, c, rfl, I⟩ := h.len;obtain ⟨g, d⟩ := num_valid q;obtain ⟨n, z, f, Z⟩ := DI q
 have e := fun b => side_le b l fun y K => by
  obtain ⟨i, F⟩ := List.getElem?_of_mem K;have := (DD F).1 (f i (List.getElem?_eq_some_iff.1 F).1);exact ⟨this.2.1, this.2.2.1⟩
 have k := e true;have m := e false;have A := side_prod l;rw [g, ← A];have o : 0 ≤ Cd true l * Cd false l ∧ Cd true l * Cd false l ≤ 64 := by rw [A]; omega
 refine AG Tryz.func10 rfl Tryz.ntmps10 (go ?_);refine AC (rinputs_ok w _ l s) rfl ?_;rintro _ Q ⟨rfl, X⟩;refine go ?_;refine AC (routputs_ok Q _ l (s.ext X)) rfl ?_;rintro _ L ⟨rfl, j⟩;rw [if_pos q, if_pos q];refine go ?_;exact AA rfl ⟨rfl, X.trans j⟩
theorem rssmall_ok (w : World) (v : Value) (l : List Sgn) (h : SlAt sgnR AZ w v l) : Fn Zp 53 [v] w fun u w' => ∃ b : Bool, u = .bool b ∧ Ext w w' := by
 have s := h;obtain ⟨a, c, rfl, I⟩ := h.len;refine AG Tryz.func53 rfl Tryz.ntmps53 (go ?_);by_cases P : l.length ≤ 10
 ·refine go ?_;refine Ah (α := Nat) (fun k => [(0, .slice a l.length c), (3, iV (k : Int))]) (fun k W => k ≤ l.length ∧ W = w) (fun k => l.length - k) 0 ⟨rfl, rfl, trivial⟩ ⟨by omega, rfl⟩ ?_;rintro k W Z ⟨f, rfl⟩;refine go ?_;by_cases y : k < l.length
  ·obtain ⟨x, V⟩ : ∃ x, l[k]? = some x := ⟨_, List.getElem?_eq_getElem y⟩;obtain ⟨_, r, o, rfl, _, d⟩ := s.sig V;have G : W.cell? ⟨r, o + k * 3 + 0, none⟩ = some (AI x.name) := d 0 _ rfl;refine go ?_;by_cases e : x.name.length ≤ 40
   ·refine go ?_;refine ⟨k + 1, ⟨rfl, ⟨rfl, ?_, trivial⟩, ⟨by omega, rfl⟩⟩, by omega⟩;show iV ((k : Int) + 1) = _;rw [Int.natCast_add]; rfl
   ·refine go ?_;exact AA rfl ⟨_, rfl, Ext.refl _⟩
  ·refine go ?_;exact AA rfl ⟨_, rfl, Ext.refl _⟩
 ·refine go ?_;exact AA rfl ⟨_, rfl, Ext.refl _⟩






theorem bare_op {f : Fml} {i : Bool} (h : BC i f = true) : f.op ≠ 0 := by
 obtain ⟨N, o, v, b, j⟩ := f;obtain ⟨X, _⟩ := Bz h;intro e;have e : N = 0 := e;subst e;revert X;decide
theorem canG_of {f : Fml} (h : BD f = true) : BV f = Ao f := by unfold BV; rw [if_pos h]
theorem dp_con (N : Int) : dpF (conO N) = 1 := rfl
theorem dp_join {N : Int} (h : N = 5 ∨ N = 6) {n : Nat} {l : LF} (M : ∀ c ∈ l, dpF c ≤ n) : dpF (Di N l) ≤ n + 1 := by
 rw [joinM_eq h];cases zAny N l with
 | true => simp only [if_true]; rw [dp_con]; omega
 | false =>
  simp only [Bool.false_eq_true, if_false]
  have C : ∀ a ∈ dist (l.flatMap (Fl N)), dpF a ≤ n := fun a H => by
   obtain ⟨c, T, H⟩ := List.mem_flatMap.1 (mem_dist.1 H);have X := M c T;unfold Fl at H
   split at H
   ·have W := Ba H;rw [BP] at X;omega
   ·split at H
    ·cases H
    ·simp at H; rw [H]; exact X
  generalize dist (l.flatMap (Fl N)) = d at C;rw [joinD_eq]
  split
  ·rw [dp_con]; omega
  ·match d, C with
   | [], _ => rw [dp_con]; omega
   | [a], C => have := C a O; show dpF a ≤ _; omega
   | a :: c :: d, C =>
    have := dpL_le.2 C;show dpL (a :: c :: d) + 1 ≤ _;omega
theorem dp_canon : ∀ {f : Fml}, Sh f → dpF (Ao f) ≤ dpF f
 | .mk op nm v b args, hf => by
  obtain ⟨_, ⟨_, H, _⟩, R⟩ := sh_iff.1 hf;rw [canon_eq]
  have M : ∀ c ∈ args.map Ao, dpF c ≤ dpL args := fun c T => by
   obtain ⟨a, H, rfl⟩ := List.mem_map.1 T;exact Nat.le_trans (dp_canon (R a H)) (Ba H)
  have g : dpF (.mk op nm v b args) = dpL args + 1 := BP _;rw [g];have H : Ar op (args.map Ao).length = true := by rw [List.length_map]; exact H
  generalize args.map Ao = l at M H
  have G : dpF (.mk op nm v 0 l) ≤ dpL args + 1 := by
   have := dpL_le.2 M;show dpL l + 1 ≤ _;omega
  have z : ∀ k, k < l.length → dpF (l.getD k Ae) ≤ dpL args + 1 := fun k P => by
   rw [List.getD_eq_getElem?_getD, List.getElem?_eq_getElem P];have := M _ (List.getElem_mem P);simp only [Option.getD_some];omega
  by_cases j : op = 5 ∨ op = 6
  ·unfold BY;rw [if_pos j];exact dp_join j M
  by_cases d : op = 8
  ·subst d;have M : l.length = 1 := by simpa [Ar] using H
   rw [canonOp_8]; split
   ·exact z 0 U
   ·exact G
  by_cases e : op = 9
  ·subst e;have M : l.length = 2 := by simpa [Ar] using H
   rw [canonOp_9]; split
   ·exact z 1 U
   ·exact G
  by_cases n : op = 10
  ·subst n;have M : l.length = 2 := by simpa [Ar] using H
   rw [canonOp_10]; split
   ·exact z 1 U
   ·exact G
  rw [canonOp_E j d e n]; exact G
theorem loose_canon {f : Fml} (h : BD f = true) : BD (Ao f) = true := by
 obtain ⟨X, W, R⟩ := BG h;have D := DL R;exact loose_mk (Nat.le_trans (canon_sz D) X) (Nat.le_trans (dp_canon D) W) (bare_canon R)
theorem is_const {k : LU → Int → Bool} (b : Bool) : isB k (constF b) = true := by cases b <;> rfl
theorem is_opF {k : LU → Int → Bool} {N : Int} (h : N ≠ 3) {l : LF} (M : ∀ a ∈ l, isB k a = true) : isB k (opF N l) = true := is_iff.2 ⟨fun e => absurd e h, M⟩
theorem is_zeroF {k : LU → Int → Bool} : isB k Ae = true := rfl
theorem is_getD {k : LU → Int → Bool} {l : LF} (M : ∀ a ∈ l, isB k a = true) (i : Nat) : isB k (l.getD i Ae) = true := by
 rw [List.getD_eq_getElem?_getD];cases h : l[i]? with
 | none => rfl
 | some a => exact M a (List.mem_of_getElem? h)
theorem is_raw {k : LU → Int → Bool} (x : Vl) : ∀ {f : Fml}, isB k f = true → isB k (rawF x f) = true
 | .mk op nm v b args, hk => by
  obtain ⟨X, l⟩ := is_iff.1 hk;rw [raw_eq]
  split
  ·exact is_const _
  ·have B : ∀ a ∈ args.map (rawF x), isB k a = true := fun a H => by
    obtain ⟨c, T, rfl⟩ := List.mem_map.1 H;exact is_raw x (l c T)
   have z : ∀ a ∈ args.map (DZ x), isB k a = true := fun a H => by
    obtain ⟨c, T, rfl⟩ := List.mem_map.1 H;exact is_aged x (l c T)
   have D := is_aged x hk;unfold rawOp
   split
   ·exact is_opF U B
   split
   ·exact is_getD z 0
   split
   ·refine is_opF Dt fun a H => ?_;simp only [List.mem_cons, List.not_mem_nil, or_false] at H;rcases H with rfl | rfl
    ·exact is_getD B 1
    ·refine is_opF Dt fun a H => ?_;simp only [List.mem_cons, List.not_mem_nil, or_false] at H;rcases H with rfl | rfl
     ·exact is_getD B 0
     ·exact D
   split
   ·refine is_opF Dt fun a H => ?_;simp only [List.mem_cons, List.not_mem_nil, or_false] at H;rcases H with rfl | rfl
    ·exact is_getD B 1
    ·refine is_opF Dt fun a H => ?_;simp only [List.mem_cons, List.not_mem_nil, or_false] at H;rcases H with rfl | rfl
     ·exact is_getD B 0
     ·exact D
   ·exact is_zeroF
def LkS (S : List Sgn) (f : Fml) : Prop := BD f = true ∧ isB (knS S) f = true
theorem canG_op {f : Fml} (h : (BV f).op ≠ 0) : BD f = true ∧ BV f = Ao f := by
 unfold BV at h ⊢;by_cases M : BD f = true
 ·exact ⟨M, if_pos M⟩
 ·rw [if_neg M] at h; exact absurd rfl h
theorem canG_lk {S : List Sgn} {f : Fml} (h : (BV f).op ≠ 0) (P : isB (knS S) f = true) : LkS S (BV f) ∧ ∀ (s : Wd) (t : Nat), sem s (BV f) t ↔ sem s f t := by
 obtain ⟨X, W⟩ := canG_op h;obtain ⟨_, _, R⟩ := BG X;rw [W];exact ⟨⟨loose_canon X, is_canon (DL R) P⟩, fun s t => canon_sem s (DL R) t⟩
theorem step_sem {S : List Sgn} {f : Fml} {x : Int} (h : (Ca S f x).op ≠ 0) {s : Wd} (D : s 0 = vlS S x) : LkS S (Ca S f x) ∧ (sem (tailW s) (Ca S f x) 0 ↔ sem s f 0) := by
 unfold Ca at h ⊢;by_cases T : fitsB S f = true ∧ 0 ≤ x ∧ x < CN S
 ·rw [if_pos T] at h ⊢;obtain ⟨_, M, P⟩ := fits_parts T.1;obtain ⟨X, W⟩ := canG_lk (S := S) (f := rawF (vlS S x) f) h (is_raw _ P);refine ⟨X, (W _ _).trans ?_⟩;rw [← D];exact raw_sem s f (BG M).2.2
 ·rw [if_neg T] at h; exact absurd rfl h
def dropW (n : Nat) (s : Wd) : Wd := fun t => s (t + n)
theorem drop_tail (n : Nat) (s : Wd) : dropW n (tailW s) = dropW (n + 1) s := by
 funext t
 show s (t + n + 1) = s (t + (n + 1));rw [Nat.add_assoc]
theorem run_sem {S : List Sgn} : ∀ (xs : List Int) {f : Fml} {s : Wd}, LkS S f → (runL S f xs).op ≠ 0 → (∀ i x, xs[i]? = some x → s i = vlS S x) → LkS S (runL S f xs) ∧ (sem (dropW xs.length s) (runL S f xs) 0 ↔ sem s f 0)
 | [], f, s, hf, _, _ => ⟨hf, Iff.rfl⟩
 | x :: xs, f, s, hf, h, hs => by
  rw [runL] at h ⊢;by_cases a : (Ca S f x).op = 0
  ·rw [if_pos a] at h; exact absurd rfl h
  ·rw [if_neg a] at h ⊢;obtain ⟨X, W⟩ := step_sem a (hs 0 x rfl);obtain ⟨R, w⟩ := run_sem xs (s := tailW s) X h fun i y K => hs (i + 1) y (by simpa using K);rw [drop_tail] at w;exact ⟨R, w.trans W⟩
theorem rungo_sem {S : List Sgn} (xs : List Int) {f : Fml} {s : Wd} (h : (Db S f xs).op ≠ 0) (D : ∀ i x, xs[i]? = some x → s i = vlS S x) : LkS S (Db S f xs) ∧ (sem (dropW xs.length s) (Db S f xs) 0 ↔ sem s f 0) := by
 unfold Db at h ⊢;by_cases T : fitsB S f = true
 ·rw [if_pos T] at h ⊢;obtain ⟨_, M, P⟩ := fits_parts T;obtain ⟨X, W⟩ := canG_lk (S := S) (f := f) (by rw [canG_of M]; exact bare_op (bare_canon (BG M).2.2)) P;obtain ⟨R, w⟩ := run_sem xs X h D;exact ⟨R, w.trans (W s 0)⟩
 ·rw [if_neg T] at h; exact absurd rfl h
theorem gl {α : Type} {l : List α} {k : Nat} (h : k < l.length) : ∃ x, l[k]? = some x := ⟨_, List.getElem?_eq_getElem h⟩
theorem nk (k : Nat) : iV ((k : Int) + 1) = iV ((k + 1 : Nat) : Int) := by rw [Int.natCast_add]; rfl
theorem ag {p : Prop} (h : p := by repeat' first | exact trivial | refine ⟨rfl, ?_⟩ | refine ⟨nk _, ?_⟩) : p := h
section
variable {mk : Prop} [MK mk] {X : List Nat} {w w' : World} {ok : Nat → Prop}
theorem FAt.keep' {v : Value} {f : Fml} (k : Keep X w w') (h : FAt ok w v f) (a : ∀ b, ok b → b ∉ X) : FAt ok w' v f := h.E k a
theorem FsAt.keep' {L : List (LV)} {l : LF} (k : Keep X w w') (h : FsAt ok w L l) (a : ∀ b, ok b → b ∉ X) : FsAt ok w' L l := h.E k a
theorem RsAt.keep' {α : Type} {R : Rp α} {L : List (LV)} {l : List α} (k : Keep X w w') (h : RsAt R ok w L l) (a : ∀ b, ok b → b ∉ X) : RsAt R ok w' L l := h.E k a
theorem SlAt.keep' {α : Type} {R : Rp α} {v : Value} {l : List α} (k : Keep X w w') (h : SlAt R ok w v l) (a : ∀ b, ok b → b ∉ X) : SlAt R ok w' v l := h.E k a
theorem PF.keep' {b o : Nat} {f : Fml} (k : Keep X w w') (h : PF ok w b o f) (a : ∀ b, ok b → b ∉ X) : PF ok w' b o f := h.E k a
end
section
variable {mk : Prop} [MK mk]
abbrev BS := Int × Bool
def tkB (s : BS) (d : Int) : BS := (s.1 - 1, s.2 || (decide (s.1 - 1 < 0) || decide (d < 1)))
def dualM (N : Int) : Int := if N = 1 then 2 else if N = 2 then 1 else if N = 5 then 6 else if N = 6 then 5 else if N = 9 then 10 else if N = 10 then 9 else if N = 16 then 17 else if N = 17 then 16 else N
def negM (P : Bool) (N : Int) : Int := if P then dualM N else N
def lnB (N v : Int) (d : Int) (s : BS) : Int × LF × BS := if (tkB s (d - 1)).2 then (v, [], tkB s (d - 1)) else (if N = 17 then 1 else v, [⟨if N = 9 ∨ N = 16 then 1 else 2, [], 0, 0, []⟩], tkB s (d - 1))
def isLn (N : Int) : Bool := decide (N = 11) || decide (N = 12) || decide (N = 18) || decide (N = 19)
def isPs (N : Int) : Bool := decide (N = 15) || decide (N = 16) || decide (N = 17)
def Cp (N v : Int) (P : Bool) : Int := if isPs N && P then 1 - v else v
def bdB (N : Int) (P : Bool) (g : Int → BS → Fml × BS) : Nat → Int → BS → Fml × BS
 | 0, d, s => g d s
 | n + 1, d, s => if s.2 then (Ae, s) else if (tkB s d).2 then (Ae, tkB s d) else if (tkB (tkB s d) (d - 1)).2 then (Ae, tkB (tkB s d) (d - 1)) else
  let r := g (d - 1) (tkB (tkB s d) (d - 1)); let q := bdB N P g n (d - 2) r.2
  (⟨negM P (Ci N), [], 0, 0, [r.1, ⟨8, [], 0, 0, [q.1]⟩]⟩, q.2)
mutual
def fmB : Fml → Bool → Int → BS → Fml × BS
 | .mk op nm v b args, neg, d, s =>
  if s.2 then (Ae, s)
  else if op = 4 then fm0 args (!neg) d s
  else if op = 3 ∧ neg = true then (if (tkB s d).2 then (Ae, tkB s d) else if (tkB (tkB s d) (d - 1)).2 then (Ae, tkB (tkB s d) (d - 1)) else (⟨4, [], 0, 0, [⟨3, nm, v, 0, []⟩]⟩, tkB (tkB s d) (d - 1)))
  else if op = 13 ∨ op = 14 then bdB op neg (fm0 args neg) b.toNat d s
  else if (tkB s d).2 then (Ae, tkB s d)
  else
   let ln := if isLn op then lnB (negM neg (Ci op)) (Cp op v neg) d (tkB s d) else (Cp op v neg, [], tkB s d)
   let r := fmL (op == 7) args neg (d - 1) ln.2.2
   (⟨negM neg (Ci op), nm, ln.1, 0, ln.2.1 ++ r.1⟩, r.2)
def fm0 : LF → Bool → Int → BS → Fml × BS
 | [], _, _, s => (Ae, s)
 | a :: _, neg, d, s => fmB a neg d s
def fmL : Bool → LF → Bool → Int → BS → LF × BS
 | _, [], _, _, s => ([], s)
 | turn, a :: l, neg, d, s => let r := fmB a (neg != turn) d s; let q := fmL false l neg d r.2; (r.1 :: q.1, q.2)
end
def bsOk (s : BS) : Prop := -1 ≤ s.1 ∧ s.1 ≤ 1000 ∧ (s.2 = false → 0 ≤ s.1)
theorem tk_ok {s : BS} {d : Int} (h : bsOk s) (a : s.2 = false) : bsOk (tkB s d) ∧ ((tkB s d).2 = false → 1 ≤ d) := by
 obtain ⟨X, W, R⟩ := h;have := R a;unfold tkB bsOk;simp only [a, Bool.false_or, Bool.or_eq_false_iff, decide_eq_false_iff_not];refine ⟨⟨by omega, by omega, fun h => by omega⟩, fun h => by omega⟩
abbrev BAt (w : World) (b : Nat) (s : BS) : Prop := Blk w b 146 [iV s.1, .bool s.2]
theorem gtake_ok (w : World) (b : Nat) (s : BS) (d : Int) (S : BAt w b s) (D : bsOk s) :
  Fn Zp 123 [pt b, iV d] w fun u w' => u = .bool (!(tkB s d).2) ∧ Keep [b] w w' ∧ BAt w' b (tkB s d) := by
 obtain ⟨l, ov⟩ := s;obtain ⟨X, W, _⟩ := D;simp only at X W;refine AG Tryz.func123 rfl Tryz.ntmps123 (go ?_);refine AN (v := iV (l - 1)) rfl rfl rfl S O (fun Q r => ?_);have k : Blk Q b 146 [iV (l - 1), .bool ov] := r.D;refine go ?_;by_cases M : l - 1 < 0
 ·refine go ?_;refine AN (v := .bool true) rfl rfl rfl k O (fun L a => ?_);have c : Blk L b 146 [iV (l - 1), .bool true] := a.D;refine go ?_;have e : tkB (l, ov) d = (l - 1, true) := by simp [tkB, M]
  rw [e];exact AA rfl ⟨rfl, r.E.trans a.E (fun x h _ => h), c⟩
 ·by_cases C : d < 1
  ·refine go ?_;refine AN (v := .bool true) rfl rfl rfl k O (fun L a => ?_);have c : Blk L b 146 [iV (l - 1), .bool true] := a.D;refine go ?_;have e : tkB (l, ov) d = (l - 1, true) := by simp [tkB, C]
   rw [e];exact AA rfl ⟨rfl, r.E.trans a.E (fun x h _ => h), c⟩
  ·refine go ?_;have e : tkB (l, ov) d = (l - 1, ov) := by simp [tkB, M, C]
   rw [e];exact AA rfl ⟨rfl, r.E, k⟩
theorem dual_ok (w : World) (N : Int) : Fn Zp 126 [iV N] w fun u w' => u = iV (dualM N) ∧ w' = w := by
 unfold dualM;refine AG Tryz.func126 rfl Tryz.ntmps126 (go ?_);by_cases X : N = 1
 ·rw [if_pos X]; refine go ?_; exact AA rfl ⟨rfl, rfl⟩
 rw [if_neg X];by_cases W : N = 2
 ·rw [if_pos W]; refine go ?_; exact AA rfl ⟨rfl, rfl⟩
 rw [if_neg W];by_cases R : N = 5
 ·rw [if_pos R]; refine go ?_; exact AA rfl ⟨rfl, rfl⟩
 rw [if_neg R];by_cases a : N = 6
 ·rw [if_pos a]; refine go ?_; exact AA rfl ⟨rfl, rfl⟩
 rw [if_neg a];by_cases P : N = 9
 ·rw [if_pos P]; refine go ?_; exact AA rfl ⟨rfl, rfl⟩
 rw [if_neg P];by_cases b : N = 10
 ·rw [if_pos b]; refine go ?_; exact AA rfl ⟨rfl, rfl⟩
 rw [if_neg b];by_cases m : N = 16
 ·rw [if_pos m]; refine go ?_; exact AA rfl ⟨rfl, rfl⟩
 rw [if_neg m];by_cases y : N = 17
 ·rw [if_pos y]; refine go ?_; exact AA rfl ⟨rfl, rfl⟩
 rw [if_neg y];exact EU
end
end Go.Proofs.YtohodbnnhlddpaaGreatDoor
