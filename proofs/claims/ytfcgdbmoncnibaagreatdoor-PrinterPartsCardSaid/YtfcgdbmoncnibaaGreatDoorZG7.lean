/- The reference: formulas compared. The reference: formulas built, requirements compared. The reference: requirements, signals, specifications, edits compared. The parser: tables, tokens of a text, the deferred calls. The parser: the deferred calls. The parser: a whole text. What the parser answers, as an outcome. The mode in which nothing is told of frozen cells. What the parser answers, and that what it makes bears no mark. Formulas at an address. Conditions: none. -/
import Derived.Test.YtfcgdbmoncnibaaGreatDoorZG6

namespace Go.Proofs.YtfcgdbmoncnibaaGreatDoor
open Go.RowKit
set_option linter.unusedVariables false
variable {mk : Prop} [MK mk]
theorem fml_eq {f g : Fml} : f = g ↔ f.op = g.op ∧ f.name = g.name ∧ f.val = g.val ∧ f.bound = g.bound ∧ f.args = g.args := by
 obtain ⟨a, b, c, d, e⟩ := f
 obtain ⟨a', b', c', d', e'⟩ := g
 simp [Fml.op, Fml.name, Fml.val, Fml.bound, Fml.args]
theorem ints_ok (a b : Int) (w : World) : Fn Tryz.prog 141 [.int .i64 a, .int .i64 b] w fun v w' => ∃ c : Int, v = .int .i64 c ∧ (c = 0 ↔ a = b) ∧ w' = w := by
 refine Ab Tryz.func141 rfl Tryz.ntmps141 (Nat.le_of_ble_eq_true rfl) (by kernel_rfl) ?_
 repeat refine nx rfl ?_
 refine AA (AC (AF rfl ?_))
 repeat refine nx rfl ?_
 by_cases h1 : a < b
 ·refine AA (AF rfl (AF rfl (BC rfl rfl (by omega) ?_)))
  repeat refine nx rfl ?_
  refine AA (AC (AF rfl ?_))
  repeat refine nx rfl ?_
  exact AO rfl ⟨-1, rfl, by omega, rfl⟩
 ·refine AA (AF rfl (AF rfl (BA rfl rfl (by omega) ?_)))
  repeat first | refine nx rfl ?_ | refine nf rfl ?_
  by_cases h2 : b < a
  ·refine AA (AF rfl (AF rfl (DI rfl rfl (by omega) ?_)))
   repeat refine nx rfl ?_
   refine AA (AC (AF rfl ?_))
   repeat refine nx rfl ?_
   exact AO rfl ⟨1, rfl, by omega, rfl⟩
  ·refine AA (AF rfl (AF rfl (DF rfl rfl (by omega) ?_)))
   repeat first | refine nx rfl ?_ | refine nf rfl ?_
   refine AA (AC (AF rfl ?_))
   repeat refine nx rfl ?_
   exact AO rfl ⟨0, rfl, by omega, rfl⟩
theorem W_slss {P : Program} {all : Array Oper} {Z : Fr → DS → List PanicEntry → World → Prop} {K : Fr → DS → World → Prop} {rest : List Oper} {f : Fr} {ds : DS} {w : World} {d : Nat} {ty : TypeId} {pos : String} {af : Array Edge} {xt yt : TypeId} {x y : Operand} {s t : List UInt8}
  (hx : ev f x = AL s) (hy : ev f y = AL t) (h : ∀ b : Bool, AW P all Z K rest (upd f d (.bool b)) ds w) : AW P all Z K (⟨some d, .binOp .lss xt x y yt, ty, pos, af, none⟩ :: rest) f ds w :=
 A5 (v := .bool (Op.bytesLess s t)) rfl (by simp [execOp, hx, hy, eqGuard, binOp, Op.stringOp]) (h _)
theorem compare_ok : ∀ (n : Nat) (f g : Fml), SizeOf.sizeOf f ≤ n → ∀ (w : World) (v v' : Value), FAt A0 w v f → FAt A0 w v' g → Fn Tryz.prog 103 [v, v'] w fun r w' => ∃ c : Int, r = .int .i64 c ∧ (c = 0 ↔ f = g) ∧ Ext w w' := by
 intro n
 induction n with
 | zero => intro f g hn; cases f; simp at hn
 | succ n ih =>
 intro f g hn w v v' hf hg
 obtain ⟨av, rfl, L, hS, hL, h5, hA⟩ := hf.form
 obtain ⟨bv, rfl, M, hS', hL', h5', hA'⟩ := hg.form
 obtain ⟨aa, ac, rfl, _⟩ := id hS
 obtain ⟨ba, bc, rfl, _⟩ := id hS'
 have hla : f.args.length ≤ 9223372036854775807 := by obtain ⟨_, _, hv, g1, g2, _⟩ := id hS; cases hv; omega
 have hsz : ∀ x ∈ f.args, SizeOf.sizeOf x ≤ n := by
  intro x hx
  cases f with
  | mk o nm vl bd args =>
   have := List.sizeOf_lt_of_mem hx
   simp [Fml.args] at this hn
   omega
 refine Ab Tryz.func103 rfl Tryz.ntmps103 (Nat.le_of_ble_eq_true rfl) (by kernel_rfl) ?_
 repeat refine nx rfl ?_
 (refine AA ?_; refine Bq (L := [.int .i64 f.op, AL f.name, .int .i64 f.val, .int .i64 f.bound, .slice aa f.args.length ac]) rfl (fun w1 n1 => ?_))
 refine Bq (L := [.int .i64 g.op, AL g.name, .int .i64 g.val, .int .i64 g.bound, .slice ba g.args.length bc]) rfl (fun w2 n2 => ?_)
 have a2 : Blk w2 w.heap.size 24 [.int .i64 f.op, AL f.name, .int .i64 f.val, .int .i64 f.bound, .slice aa f.args.length ac] := n1.blk.keep n2.keep (by simp)
 have b2 := n2.blk
 have k2 : Ext w w2 := n1.keep.trans n2.keep
 refine AC (AF rfl ?_)
 repeat refine nx rfl ?_
 (refine AA (AD rfl (AG rfl (Blk.cell (by assumption) (by rfl)) ?_)) <;> refine AD rfl (AG rfl (Blk.cell (by assumption) (by rfl)) ?_))
 refine AS (ints_ok _ _ _) rfl ?_
 rintro _ w3 ⟨c0, rfl, h0, rfl⟩
 refine AC (AF rfl (AJ ?_))
 refine DH ?_
 refine DP ?_
 refine CE (α := Int) (fun c => [(2, pt w.heap.size), (3, pt w1.heap.size), (4, .int .i64 0), (5, .int .i64 c)]) (fun c W => Blk W w.heap.size 24 [.int .i64 f.op, AL f.name, .int .i64 f.val, .int .i64 f.bound, .slice aa f.args.length ac] ∧ Blk W w1.heap.size 24 [.int .i64 g.op, AL g.name, .int .i64 g.val, .int .i64 g.bound, .slice ba g.args.length bc] ∧ Ext w W ∧ (c = 0 ↔ f.op = g.op ∧ f.name = g.name)) ?_ ?_
 ·repeat refine nx rfl ?_
  by_cases hc0 : c0 = 0
  ·by_cases hnm : f.name = g.name
   ·(refine AA (AF rfl (Av rfl rfl (by omega) (AB rfl (AE rfl (AD rfl (AE rfl (AG rfl (Blk.cell (by assumption) (by rfl)) ?_))))))) <;> refine AE rfl (AD rfl (AE rfl (AG rfl (Blk.cell (by assumption) (by rfl)) ?_))) <;> (refine AE rfl ?_; refine W_sneq rfl rfl (fun hc => ?_) (fun hc => ?_)) <;> refine AK rfl (AB rfl (AJ ?_)))
    ·exact absurd hnm (by assumption)
    repeat first | refine nx rfl ?_ | refine nf rfl ?_
    exact An c0 ⟨rfl, rfl, rfl, rfl, trivial⟩ ⟨a2, b2, k2, by simp_all⟩
   ·(refine AA (AF rfl (Av rfl rfl (by omega) (AB rfl (AE rfl (AD rfl (AE rfl (AG rfl (Blk.cell (by assumption) (by rfl)) ?_))))))) <;> refine AE rfl (AD rfl (AE rfl (AG rfl (Blk.cell (by assumption) (by rfl)) ?_))) <;> (refine AE rfl ?_; refine W_sneq rfl rfl (fun hc => ?_) (fun hc => ?_)) <;> refine AK rfl (AB rfl (AJ ?_)))
    rotate_left
    ·exact absurd (by assumption) hnm
    repeat refine nx rfl ?_
    refine AA (AC (AF rfl ?_))
    repeat refine nx rfl ?_
    (refine AA (AD rfl (AG rfl (Blk.cell (by assumption) (by rfl)) ?_)) <;> refine AD rfl (AG rfl (Blk.cell (by assumption) (by rfl)) ?_))
    refine W_slss rfl rfl (fun b => ?_)
    refine AJ ?_
    cases b with
    | true =>
     repeat refine nx rfl ?_
     refine AA (AC (AF rfl ?_))
     repeat refine nx rfl ?_
     exact An (-1) ⟨rfl, rfl, rfl, rfl, trivial⟩ ⟨a2, b2, k2, by simp_all⟩
    | false =>
     repeat first | refine nx rfl ?_ | refine nf rfl ?_
     exact An 1 ⟨rfl, rfl, rfl, rfl, trivial⟩ ⟨a2, b2, k2, by simp_all⟩
  ·refine AA (AF rfl (AN rfl rfl (by omega) (AB rfl (AI rfl (AI rfl (AI rfl (AI rfl (AI rfl (AP rfl (AB rfl ?_))))))))))
   repeat first | refine nx rfl ?_ | refine nf rfl ?_
   exact An c0 ⟨rfl, rfl, rfl, rfl, trivial⟩ ⟨a2, b2, k2, by simp_all⟩
 clear a2 b2 k2
 rintro c w3 f3 ⟨a2, b2, k2, hp⟩
 refine DP ?_
 refine CE (α := Int) (fun c => [(2, pt w.heap.size), (3, pt w1.heap.size), (4, .int .i64 0), (5, .int .i64 c)]) (fun c W => Blk W w.heap.size 24 [.int .i64 f.op, AL f.name, .int .i64 f.val, .int .i64 f.bound, .slice aa f.args.length ac] ∧ Blk W w1.heap.size 24 [.int .i64 g.op, AL g.name, .int .i64 g.val, .int .i64 g.bound, .slice ba g.args.length bc] ∧ Ext w W ∧ (c = 0 ↔ f.op = g.op ∧ f.name = g.name ∧ f.val = g.val)) ?_ ?_
 ·repeat refine nx rfl ?_
  by_cases hc0 : c = 0
  ·refine AA (AF rfl (Av rfl rfl (by omega) ?_))
   repeat refine nx rfl ?_
   (refine AA (AD rfl (AG rfl (Blk.cell (by assumption) (by rfl)) ?_)) <;> refine AD rfl (AG rfl (Blk.cell (by assumption) (by rfl)) ?_))
   refine AS (ints_ok _ _ _) rfl ?_
   rintro _ w5 ⟨c5, rfl, h5c, rfl⟩
   refine AC (AF rfl ?_)
   repeat refine nx rfl ?_
   exact An c5 ⟨rfl, rfl, rfl, rfl, trivial⟩ ⟨a2, b2, k2, by have := hp.1 hc0; constructor <;> intro h <;> simp_all <;> omega⟩
  ·refine AA (AF rfl (AN rfl rfl (by omega) ?_))
   repeat first | refine nx rfl ?_ | refine nf rfl ?_
   exact An c ⟨rfl, rfl, rfl, rfl, trivial⟩ ⟨a2, b2, k2, by constructor <;> intro h <;> simp_all⟩
 clear a2 b2 k2 hp
 rintro c w3 f3 ⟨a2, b2, k2, hp⟩
 refine DP ?_
 refine CE (α := Int) (fun c => [(2, pt w.heap.size), (3, pt w1.heap.size), (4, .int .i64 0), (5, .int .i64 c)]) (fun c W => Blk W w.heap.size 24 [.int .i64 f.op, AL f.name, .int .i64 f.val, .int .i64 f.bound, .slice aa f.args.length ac] ∧ Blk W w1.heap.size 24 [.int .i64 g.op, AL g.name, .int .i64 g.val, .int .i64 g.bound, .slice ba g.args.length bc] ∧ Ext w W ∧ (c = 0 ↔ f.op = g.op ∧ f.name = g.name ∧ f.val = g.val ∧ f.bound = g.bound)) ?_ ?_
 ·repeat refine nx rfl ?_
  by_cases hc0 : c = 0
  ·refine AA (AF rfl (Av rfl rfl (by omega) ?_))
   repeat refine nx rfl ?_
   (refine AA (AD rfl (AG rfl (Blk.cell (by assumption) (by rfl)) ?_)) <;> refine AD rfl (AG rfl (Blk.cell (by assumption) (by rfl)) ?_))
   refine AS (ints_ok _ _ _) rfl ?_
   rintro _ w5 ⟨c5, rfl, h5c, rfl⟩
   refine AC (AF rfl ?_)
   repeat refine nx rfl ?_
   exact An c5 ⟨rfl, rfl, rfl, rfl, trivial⟩ ⟨a2, b2, k2, by have := hp.1 hc0; constructor <;> intro h <;> simp_all <;> omega⟩
  ·refine AA (AF rfl (AN rfl rfl (by omega) ?_))
   repeat first | refine nx rfl ?_ | refine nf rfl ?_
   exact An c ⟨rfl, rfl, rfl, rfl, trivial⟩ ⟨a2, b2, k2, by constructor <;> intro h <;> simp_all⟩
 clear a2 b2 k2 hp
 rintro c w3 f3 ⟨a2, b2, k2, hp⟩
 refine DP ?_
 refine CE (α := Int) (fun c => [(2, pt w.heap.size), (3, pt w1.heap.size), (4, .int .i64 0), (5, .int .i64 c)]) (fun c W => Blk W w.heap.size 24 [.int .i64 f.op, AL f.name, .int .i64 f.val, .int .i64 f.bound, .slice aa f.args.length ac] ∧ Blk W w1.heap.size 24 [.int .i64 g.op, AL g.name, .int .i64 g.val, .int .i64 g.bound, .slice ba g.args.length bc] ∧ Ext w W ∧ (c = 0 ↔ f.op = g.op ∧ f.name = g.name ∧ f.val = g.val ∧ f.bound = g.bound ∧ f.args.length = g.args.length)) ?_ ?_
 ·repeat refine nx rfl ?_
  by_cases hc0 : c = 0
  ·refine AA (AF rfl (Av rfl rfl (by omega) ?_))
   repeat refine nx rfl ?_
   (refine AA (AD rfl (AG rfl (Blk.cell (by assumption) (by rfl)) ?_)) <;> refine As rfl (AD rfl (AG rfl (Blk.cell (by assumption) (by rfl)) ?_)) <;> refine As rfl ?_)
   refine AS (ints_ok _ _ _) rfl ?_
   rintro _ w5 ⟨c5, rfl, h5c, rfl⟩
   refine AC (AF rfl ?_)
   repeat refine nx rfl ?_
   exact An c5 ⟨rfl, rfl, rfl, rfl, trivial⟩ ⟨a2, b2, k2, by have := hp.1 hc0; constructor <;> intro h <;> simp_all <;> omega⟩
  ·refine AA (AF rfl (AN rfl rfl (by omega) ?_))
   repeat first | refine nx rfl ?_ | refine nf rfl ?_
   exact An c ⟨rfl, rfl, rfl, rfl, trivial⟩ ⟨a2, b2, k2, by constructor <;> intro h <;> simp_all⟩
 clear a2 b2 k2 hp
 rintro c w3 f3 ⟨a2, b2, k2, hp⟩
 refine DP ?_
 refine DP ?_
 refine AA (AC (AF rfl ?_))
 repeat refine nx rfl ?_
 refine BJ (α := Nat × Int) (fun x => [(2, pt w.heap.size), (3, pt w1.heap.size), (4, .int .i64 0), (5, .int .i64 x.2), (6, .int .i64 (x.1 : Int))])
  (fun x W => x.1 ≤ f.args.length ∧ Ext w3 W ∧ (x.2 = 0 ↔ (f.op = g.op ∧ f.name = g.name ∧ f.val = g.val ∧ f.bound = g.bound ∧ f.args.length = g.args.length) ∧ ∀ j, j < x.1 → f.args[j]? = g.args[j]?)) (fun x => f.args.length - x.1) (0, c) ⟨rfl, rfl, rfl, rfl, rfl, trivial⟩
  ⟨by simp, Ext.refl _, by simp only; rw [hp]; exact ⟨fun h => ⟨h, fun j hj => by omega⟩, fun h => h.1⟩⟩ ?_
 rintro ⟨i, c'⟩ w4 f4 ⟨hi, k4, hpi⟩
 simp only at hi hpi ⊢
 repeat refine nx rfl ?_
 have hend : ∀ (W : World), Ext w3 W → (c' = 0 → i = f.args.length) → ∃ c0 : Int, Value.int .i64 c' = .int .i64 c0 ∧ (c0 = 0 ↔ f = g) ∧ Ext w W := by
  intro W kW hii
  refine ⟨c', rfl, ?_, k2.trans kW⟩
  rw [fml_eq]
  constructor
  ·intro h
   obtain ⟨⟨h1, h2, h3, h4, h5⟩, h6⟩ := hpi.1 h
   refine ⟨h1, h2, h3, h4, List.ext_getElem? fun j => ?_⟩
   by_cases hj : j < i
   ·exact h6 j hj
   ·have := hii h
    rw [List.getElem?_eq_none (by omega), List.getElem?_eq_none (by omega)]
  ·rintro ⟨h1, h2, h3, h4, h5⟩
   exact hpi.2 ⟨⟨h1, h2, h3, h4, by rw [h5]⟩, fun j _ => by rw [h5]⟩
 have a4 := a2.keep k4 (by simp)
 have b4 := b2.keep k4 (by simp)
 by_cases hlt : i < f.args.length
 ·by_cases hc0 : c' = 0
  ·have hlen : f.args.length = g.args.length := (hpi.1 hc0).1.2.2.2.2
   have kk := k2.trans k4
   obtain ⟨x, hx⟩ : ∃ x, f.args[i]? = some x := ⟨_, List.getElem?_eq_getElem hlt⟩
   obtain ⟨y, hy⟩ : ∃ y, g.args[i]? = some y := ⟨_, List.getElem?_eq_getElem (by omega)⟩
   obtain ⟨cx, hcx⟩ : ∃ cx, L[i]? = some cx := ⟨_, List.getElem?_eq_getElem (by omega)⟩
   obtain ⟨cy, hcy⟩ : ∃ cy, M[i]? = some cy := ⟨_, List.getElem?_eq_getElem (by omega)⟩
   have hfx := (hA i cx x hcx hx).ext kk
   have hfy := (hA' i cy y hcy hy).ext kk
   have hx5 := h5 cx (List.mem_of_getElem? hcx)
   have hy5 := h5' cy (List.mem_of_getElem? hcy)
   obtain ⟨bx, ox, rfl, _, hcellx⟩ := (hS.ext kk).fml h5 hcx hlt
   obtain ⟨by', oy, rfl, _, hcelly⟩ := (hS'.ext kk).fml h5' hcy (by omega)
   obtain ⟨x0, x1, x2, x3, x4, rfl⟩ := Ch hx5
   obtain ⟨y0, y1, y2, y3, y4, rfl⟩ := Ch hy5
   (refine AA (AF rfl (AD rfl (AG rfl (Blk.cell (by assumption) (by rfl)) ?_))) <;> refine As rfl (BC rfl rfl (by omega) (AB rfl (AE rfl (AF rfl (AE rfl (Av rfl rfl (by omega) (AK rfl (AB rfl ?_)))))))))
   repeat refine nx rfl ?_
   refine Bb (.read 0 (.read 1 (.read 2 (.read 3 (.read 4 (.read 5 (.read 6 (.read 7 (.read 8 (.read 9 (.alt 10 (.read 11 .done) .stop))))))))))) BP (by kernel_rfl) (fun wd kd ed => ⟨Ext wd, ?_, ?_⟩)
   ·exact Ext.refl _
   have fa : ∀ W : World, Ext wd W → W.cell? ⟨w.heap.size, 0 + 4, none⟩ = some (.slice (some ⟨bx, ox, none⟩) f.args.length ac) := fun W e => ((a4.keep kd (by simp)).keep e (by simp)).cell rfl
   have fb : ∀ W : World, Ext wd W → W.cell? ⟨w1.heap.size, 0 + 4, none⟩ = some (.slice (some ⟨by', oy, none⟩) g.args.length bc) := fun W e => ((b4.keep kd (by simp)).keep e (by simp)).cell rfl
   have fc : ∀ W : World, Ext wd W → Cells W bx (ox + i * 5) [x0, x1, x2, x3, x4] := fun W e => (hcellx.keep kd (by simp)).keep e (by simp)
   have fd : ∀ W : World, Ext wd W → Cells W by' (oy + i * 5) [y0, y1, y2, y3, y4] := fun W e => (hcelly.keep kd (by simp)).keep e (by simp)
   (refine D_R rfl rfl (fun W hW => AD rfl Z3) (D_R rfl rfl (fun W hW => AG rfl (fa W hW) Z3) (D_R rfl rfl (fun W hW => AF rfl Z3) (D_R rfl rfl (fun W hW => CD rfl rfl rfl (by omega) Z3) ?_))) <;> (apply D_R rfl rfl; (intro W hW; refine Ac rfl (by rfl) (fc W hW) ?_; exact Z3)) <;> refine D_R rfl rfl (fun W hW => AD rfl Z3) (D_R rfl rfl (fun W hW => AG rfl (fb W hW) Z3) (D_R rfl rfl (fun W hW => AF rfl Z3) (D_R rfl rfl (fun W hW => CD rfl rfl rfl (by omega) Z3) ?_))) <;> (apply D_R rfl rfl; (intro W hW; refine Ac rfl (by rfl) (fd W hW) ?_; exact Z3)))
   refine D_E rfl ?_
   refine AS (ih x y (hsz x (List.mem_of_getElem? hx)) wd _ _ (hfx.ext kd) (hfy.ext kd)) rfl ?_
   rintro _ w6 ⟨c6, rfl, h6, k6⟩
   refine AJ ⟨Ext w6, fun W e => k6.trans e, Ext.refl _, ?_⟩
   refine D_R rfl rfl (fun W hW => AC (AF rfl Z3)) (A8 ?_)
   repeat refine nx rfl ?_
   (refine AA (AF rfl (BK rfl rfl (by first | exact Am (by omega) (by omega) | exact At (by omega) (by omega) | exact Al (by omega) (by omega)) ?_)) <;> refine AC (AF rfl ?_))
   repeat refine nx rfl ?_
   refine ⟨(i + 1, c6), ⟨rfl, ⟨rfl, rfl, rfl, rfl, ?_, trivial⟩, ⟨by simp only; omega, (k4.trans kd).trans k6, ?_⟩⟩, by simp only; omega⟩
   ·show Value.int .i64 ((i : Int) + 1) = _
    rw [Int.natCast_add]; rfl
   ·simp only
    rw [h6]
    obtain ⟨hh, hjj⟩ := hpi.1 hc0
    constructor
    ·rintro rfl
     refine ⟨hh, fun j hj => ?_⟩
     by_cases hji : j = i
     ·subst hji; rw [hx, hy]
     ·exact hjj j (by omega)
    ·rintro ⟨_, hj⟩
     have := hj i (by omega)
     rw [hx, hy] at this
     exact Option.some.inj this
  ·(refine AA (AF rfl (AD rfl (AG rfl (Blk.cell (by assumption) (by rfl)) ?_))) <;> refine As rfl (BC rfl rfl (by omega) (AB rfl (AE rfl (AF rfl (AE rfl (AN rfl rfl (by omega) (AK rfl (AB rfl ?_)))))))))
   repeat first | refine nx rfl ?_ | refine nf rfl ?_
   refine AA (AF rfl (AC (AF rfl ?_)))
   repeat refine nx rfl ?_
   exact AO rfl (hend w4 k4 (fun h => absurd h hc0))
 ·(refine AA (AF rfl (AD rfl (AG rfl (Blk.cell (by assumption) (by rfl)) ?_))) <;> refine As rfl (BA rfl rfl (by omega) (AB rfl (AI rfl (AI rfl (AP rfl (AB rfl ?_)))))))
  repeat first | refine nx rfl ?_ | refine nf rfl ?_
  refine AA (AF rfl (AC (AF rfl ?_)))
  repeat refine nx rfl ?_
  exact AO rfl (hend w4 k4 (fun h => by omega))
theorem same_ok (w : World) (v v' : Value) (f g : Fml) (hf : FAt A0 w v f) (hg : FAt A0 w v' g) : Fn Tryz.prog 62 [v, v'] w fun r w' => ∃ b : Bool, r = .bool b ∧ (b = true ↔ f = g) ∧ Ext w w' := by
 obtain ⟨cs, rfl, hcs, hone⟩ := hf.cells
 obtain ⟨ds, rfl, hds, hone2⟩ := hg.cells
 obtain ⟨c0, c1, c2, c3, c4, rfl⟩ := Ch hcs
 obtain ⟨d0, d1, d2, d3, d4, rfl⟩ := Ch hds
 refine Ab Tryz.func62 rfl Tryz.ntmps62 (Nat.le_of_ble_eq_true rfl) (by kernel_rfl) ?_
 repeat refine nx rfl ?_
 (refine AA ?_; refine Bq (L := [c0, c1, c2, c3, c4]) rfl (fun w1 n1 => ?_))
 refine Bq (L := [d0, d1, d2, d3, d4]) rfl (fun w2 n2 => ?_)
 have a2 := n1.blk.keep n2.keep (by simp)
 have b2 := n2.blk
 have k2 : Ext w w2 := n1.keep.trans n2.keep
 refine AC (AB rfl ?_)
 repeat refine nx rfl ?_
 refine AA (AX rfl a2 rfl ?_)
 refine AX rfl b2 rfl ?_
 refine AS (compare_ok _ f g (Nat.le_refl _) w2 _ _ (hf.ext k2) (hg.ext k2)) rfl ?_
 rintro _ w3 ⟨c, rfl, hcq, k3⟩
 by_cases h0 : c = 0
 ·refine Av rfl rfl (by omega) (AC (AB rfl ?_))
  repeat refine nx rfl ?_
  exact AO rfl ⟨true, rfl, by simp [hcq.1 h0], k2.trans k3⟩
 ·refine AN rfl rfl (by omega) (AC (AB rfl ?_))
  repeat refine nx rfl ?_
  exact AO rfl ⟨false, rfl, by simp; exact fun e => h0 (hcq.2 e), k2.trans k3⟩
end Go.Proofs.YtfcgdbmoncnibaaGreatDoor
namespace Go.Proofs.YtfcgdbmoncnibaaGreatDoor
open Go.RowKit
set_option linter.unusedVariables false
variable {mk : Prop} [MK mk]
abbrev FV (w : World) (v : Value) (f : Fml) : Prop := FAt A0 w v f
theorem rop_ok (w : World) (op : Int) (ok : Nat → Prop) (a : Option Addr) (c : Nat) (L : List (List Value)) (l : List Fml) (hS : Sl ok w (.slice a l.length c) l.length L.flatten) (hF : FsAt ok w L l) :
  Fn Tryz.prog 36 [.int .i64 op, .slice a l.length c] w fun v w' => Ext w w' ∧ FAt ok w' v ⟨op, [], 0, 0, l⟩ := by
 refine Ab Tryz.func36 rfl Tryz.ntmps36 (Nat.le_of_ble_eq_true rfl) (by kernel_rfl) ?_
 repeat refine nx rfl ?_
 refine AA ?_
 refine Ay (fun w1 n1 => ?_)
 have b1 : Blk w1 w.heap.size 24 Cn := n1.blk
 repeat refine nx rfl ?_
 refine AA (AF rfl (Ae rfl (Ad (by rfl) (by rfl) ?_)))
 refine AZ (cs := [.int .i64 op, AL [], .int .i64 0, .int .i64 0, .slice a l.length c]) rfl rfl rfl (BG rfl) b1 (by simp [Cn]) (fun w2 p2 => ?_)
 have b2 : Blk w2 w.heap.size 24 [.int .i64 op, AL [], .int .i64 0, .int .i64 0, .slice a l.length c] := p2.blk
 repeat refine nx rfl ?_
 have k2 : Ext w w2 := n1.keep.keep p2.keep (by simp)
 exact A6 rfl rfl rfl b2.cells ⟨k2, FAt.node op [] 0 0 (hS.ext k2) (hF.ext k2)⟩
theorem rlate_ok (w : World) (op val : Int) (ok : Nat → Prop) (a : Option Addr) (c : Nat) (L : List (List Value)) (l : List Fml) (hS : Sl ok w (.slice a l.length c) l.length L.flatten) (hF : FsAt ok w L l) :
  Fn Tryz.prog 37 [.int .i64 op, .int .i64 val, .slice a l.length c] w fun v w' => Ext w w' ∧ FAt ok w' v ⟨op, [], val, 0, l⟩ := by
 refine Ab Tryz.func37 rfl Tryz.ntmps37 (Nat.le_of_ble_eq_true rfl) (by kernel_rfl) ?_
 repeat refine nx rfl ?_
 refine AA ?_
 refine Ay (fun w1 n1 => ?_)
 have b1 : Blk w1 w.heap.size 24 Cn := n1.blk
 repeat refine nx rfl ?_
 refine AA (AF rfl (AF rfl (Ae rfl (Ad (by rfl) (by rfl) ?_))))
 refine AZ (cs := [.int .i64 op, AL [], .int .i64 val, .int .i64 0, .slice a l.length c]) rfl rfl rfl (BG rfl) b1 (by simp [Cn]) (fun w2 p2 => ?_)
 have b2 : Blk w2 w.heap.size 24 [.int .i64 op, AL [], .int .i64 val, .int .i64 0, .slice a l.length c] := p2.blk
 repeat refine nx rfl ?_
 have k2 : Ext w w2 := n1.keep.keep p2.keep (by simp)
 exact A6 rfl rfl rfl b2.cells ⟨k2, FAt.node op [] val 0 (hS.ext k2) (hF.ext k2)⟩
theorem ris_ok (w : World) (s : List UInt8) (n : Int) : Fn Tryz.prog 33 [AL s, .int .i64 n] w fun v w' => Ext w w' ∧ FV w' v (isF s n) := by
 refine Ab Tryz.func33 rfl Tryz.ntmps33 (Nat.le_of_ble_eq_true rfl) (by kernel_rfl) ?_
 repeat refine nx rfl ?_
 refine AA ?_
 refine Ay (fun w1 n1 => ?_)
 have b1 : Blk w1 w.heap.size 24 Cn := n1.blk
 repeat refine nx rfl ?_
 refine AA (AU rfl (AF rfl (Ad (by rfl) (by rfl) ?_)))
 refine AZ (cs := [.int .i64 3, AL s, .int .i64 n, .int .i64 0, .slice none 0 0]) rfl rfl rfl (BG rfl) b1 (by simp [Cn]) (fun w2 p2 => ?_)
 have b2 : Blk w2 w.heap.size 24 [.int .i64 3, AL s, .int .i64 n, .int .i64 0, .slice none 0 0] := p2.blk
 repeat refine nx rfl ?_
 exact A6 rfl rfl rfl b2.cells ⟨n1.keep.keep p2.keep (by simp), FAt.leaf _ _ _ _ _ _⟩
theorem FAt.ret {ok : Nat → Prop} {w w' : World} {v : Value} {f : Fml} {b : Nat} {cs : List Value} (h : FAt (fun x => ok x ∧ x ≠ b) w v f) (e : v = .agg cs.toArray) (k : Keep [b] w w') : FAt ok w' (.agg cs.toArray) f := by
 rw [← e]
 exact (h.keep k (fun x hx => by simpa using hx.2)).mono fun x hx => hx.1
theorem roneX_ok (w : World) (op : Int) (ok : Nat → Prop) (v : Value) (f : Fml) (hf : FAt ok w v f) (hk : ok w.heap.size) (hk2 : ∀ x, w.heap.size ≤ x → ok x) : Fn Tryz.prog 35 [.int .i64 op, v] w fun v w' => Ext w w' ∧ FAt ok w' v ⟨op, [], 0, 0, [f]⟩ := by
 have hflt := hf.lt
 obtain ⟨cs, rfl, hcs, hone⟩ := hf.cells
 obtain ⟨c0, c1, c2, c3, c4, rfl⟩ := Ch hcs
 refine Ab Tryz.func35 rfl Tryz.ntmps35 (Nat.le_of_ble_eq_true rfl) (by kernel_rfl) ?_
 repeat refine nx rfl ?_
 (refine AA ?_; refine Bq (L := [c0, c1, c2, c3, c4]) rfl (fun w1 n1 => ?_))
 refine Ay (fun w2 n2 => ?_)
 have a2 := n1.blk.keep n2.keep (by simp)
 have b2 : Blk w2 w1.heap.size 24 Cn := n2.blk
 have k2 : Ext w w2 := n1.keep.trans n2.keep
 have z1 := n1.size
 have z2 := n2.size
 repeat refine nx rfl ?_
 refine AA (AF rfl ?_)
 refine AX rfl a2 rfl ?_
 refine AV (out := [c0, c1, c2, c3, c4]) rfl (by omega) (by rw [made5]; rfl) (fun w3 n3 => ?_)
 have z3 := n3.size
 obtain ⟨S3, F3⟩ := FsAt.fresh (ok := fun x => ok x ∧ x ≠ w1.heap.size) (L := [[c0, c1, c2, c3, c4]]) n3 (FsAt.one ((hflt.ext k2).mono fun x hx => ⟨hx.1, by omega⟩) rfl) ⟨hk2 _ (by omega), by omega⟩ (by simp)
 refine AS (rop_ok w3 op _ _ _ _ [f] S3 F3) rfl ?_
 rintro v w4 ⟨k4, f4⟩
 have b4 := (b2.keep n3.keep (by simp)).keep k4 (by simp)
 refine Bu rfl rfl f4 b4 rfl (fun w5 cs e hcs k5 z5 b5 => ?_)
 repeat refine nx rfl ?_
 exact A6 rfl rfl hcs b5.cells ⟨((k2.trans n3.keep).trans k4).keep k5 (by simp; omega), f4.ret e k5⟩
theorem rone_ok (w : World) (op : Int) (v : Value) (f : Fml) (hf : FV w v f) : Fn Tryz.prog 35 [.int .i64 op, v] w fun v w' => Ext w w' ∧ FV w' v ⟨op, [], 0, 0, [f]⟩ := roneX_ok w op A0 v f hf trivial fun _ _ => trivial
theorem rtwoX_ok (w : World) (op : Int) (ok : Nat → Prop) (v v' : Value) (f g : Fml) (hf : FAt ok w v f) (hg : FAt ok w v' g) (hk2 : ∀ x, w.heap.size ≤ x → ok x) : Fn Tryz.prog 34 [.int .i64 op, v, v'] w fun v w' => Ext w w' ∧ FAt ok w' v ⟨op, [], 0, 0, [f, g]⟩ := by
 have hflt := hf.lt
 have hglt := hg.lt
 obtain ⟨cs, rfl, hcs, hone⟩ := hf.cells
 obtain ⟨ds, rfl, hds, hone2⟩ := hg.cells
 obtain ⟨c0, c1, c2, c3, c4, rfl⟩ := Ch hcs
 obtain ⟨d0, d1, d2, d3, d4, rfl⟩ := Ch hds
 refine Ab Tryz.func34 rfl Tryz.ntmps34 (Nat.le_of_ble_eq_true rfl) (by kernel_rfl) ?_
 repeat refine nx rfl ?_
 (refine AA ?_; refine Bq (L := [c0, c1, c2, c3, c4]) rfl (fun w1 n1 => ?_))
 refine Bq (L := [d0, d1, d2, d3, d4]) rfl (fun w2 n2 => ?_)
 refine Ay (fun w3 n3 => ?_)
 have a3 := (n1.blk.keep n2.keep (by simp)).keep n3.keep (by simp)
 have d3' := n2.blk.keep n3.keep (by simp)
 have b3 : Blk w3 w2.heap.size 24 Cn := n3.blk
 have k3 : Ext w w3 := (n1.keep.trans n2.keep).trans n3.keep
 have z1 := n1.size
 have z2 := n2.size
 have z3 := n3.size
 repeat refine nx rfl ?_
 refine AA (AF rfl ?_)
 refine AX rfl a3 rfl ?_
 refine AX rfl d3' rfl ?_
 refine AV (out := [c0, c1, c2, c3, c4, d0, d1, d2, d3, d4]) rfl (by omega) (by rw [made10]; rfl) (fun w4 n4 => ?_)
 have z4 := n4.size
 obtain ⟨S4, F4⟩ := FsAt.fresh (ok := fun x => ok x ∧ x ≠ w2.heap.size) (L := [[c0, c1, c2, c3, c4], [d0, d1, d2, d3, d4]]) n4 (FsAt.two ((hflt.ext k3).mono fun x hx => ⟨hx.1, by omega⟩) rfl ((hglt.ext k3).mono fun x hx => ⟨hx.1, by omega⟩) rfl) ⟨hk2 _ (by omega), by omega⟩ (by simp)
 refine AS (rop_ok w4 op _ _ _ _ [f, g] S4 F4) rfl ?_
 rintro v w5 ⟨k5, f5⟩
 have b5 := (b3.keep n4.keep (by simp)).keep k5 (by simp)
 refine Bu rfl rfl f5 b5 rfl (fun w6 cs e hcs k6 z6 b6 => ?_)
 repeat refine nx rfl ?_
 exact A6 rfl rfl hcs b6.cells ⟨((k3.trans n4.keep).trans k5).keep k6 (by simp; omega), f5.ret e k6⟩
theorem C9 (w : World) (op : Int) (v v' : Value) (f g : Fml) (hf : FV w v f) (hg : FV w v' g) : Fn Tryz.prog 34 [.int .i64 op, v, v'] w fun v w' => Ext w w' ∧ FV w' v ⟨op, [], 0, 0, [f, g]⟩ := rtwoX_ok w op A0 v v' f g hf hg fun _ _ => trivial
theorem FAt.any {ok ok' : Nat → Prop} {w w' : World} {v : Value} {f : Fml} (h : FAt ok w v f) (h0 : f.args = []) : FAt ok' w' v f := by
 cases h with
 | mk op nm vl bd args av L hS hL h5 hA =>
  have h0' : args = [] := h0
  subst h0'
  obtain ⟨a, c, rfl, h1, h2, h3, _⟩ := hS
  exact .mk op nm vl bd [] _ [] ⟨a, c, rfl, h1, h2, h3, .inl rfl⟩ rfl (fun c hc => by cases hc) (fun i c g h => by simp at h)
end Go.Proofs.YtfcgdbmoncnibaaGreatDoor
namespace Go.Proofs.YtfcgdbmoncnibaaGreatDoor
open Go.RowKit
set_option linter.unusedVariables false
variable {mk : Prop} [MK mk]
theorem rqm_eq {r s : Rqm} : r = s ↔ r.part = s.part ∧ r.name = s.name ∧ r.kind = s.kind ∧ r.formula = s.formula := by
 obtain ⟨a, b, c, d⟩ := r; obtain ⟨a', b', c', d'⟩ := s; simp
theorem sameReq_ok (w : World) (c d : List Value) (r s : Rqm) (hr : reqR.fits A0 w c r) (hs : reqR.fits A0 w d s) : Fn Tryz.prog 63 [.agg c.toArray, .agg d.toArray] w fun v w' => ∃ b : Bool, v = .bool b ∧ (b = true ↔ r = s) ∧ Ext w w' := by
 obtain ⟨c', rfl, hc5, hcf⟩ := hr
 obtain ⟨d', rfl, hd5, hdf⟩ := hs
 obtain ⟨c0, c1, c2, c3, c4, rfl⟩ := Ch hc5
 obtain ⟨d0, d1, d2, d3, d4, rfl⟩ := Ch hd5
 refine Ab Tryz.func63 rfl Tryz.ntmps63 (Nat.le_of_ble_eq_true rfl) (by kernel_rfl) ?_
 repeat refine nx rfl ?_
 (refine AA ?_; refine Bq (L := [AL r.part, AL r.name, .int .i64 r.kind, c0, c1, c2, c3, c4]) rfl (fun w1 n1 => ?_))
 refine Bq (L := [AL s.part, AL s.name, .int .i64 s.kind, d0, d1, d2, d3, d4]) rfl (fun w2 n2 => ?_)
 have a2 := n1.blk.keep n2.keep (by simp)
 have b2 := n2.blk
 have k2 : Ext w w2 := n1.keep.trans n2.keep
 refine AC (AB rfl ?_)
 repeat refine nx rfl ?_
 have ca : Cells w2 w.heap.size 3 [c0, c1, c2, c3, c4] := by
  have := a2.cells.part 3 5
  simpa using this
 have cb : Cells w2 w1.heap.size 3 [d0, d1, d2, d3, d4] := by
  have := b2.cells.part 3 5
  simpa using this
 (refine AA (AD rfl (AG rfl (Blk.cell (by assumption) (by rfl)) ?_)) <;> refine AD rfl (AG rfl (Blk.cell (by assumption) (by rfl)) ?_) <;> refine CM rfl rfl (fun hc => ?_) (fun hc => ?_) <;> refine AB rfl ?_ <;> (first | refine AI rfl ?_ | (refine AE rfl ?_; refine AD rfl ?_)) <;> (first | refine AI rfl ?_ | (refine AE rfl ?_; refine AG rfl (Blk.cell (by assumption) (by rfl)) ?_)) <;> (first | refine AI rfl ?_ | (refine AE rfl ?_; refine AD rfl ?_)) <;> (first | refine AI rfl ?_ | (refine AE rfl ?_; refine AG rfl (Blk.cell (by assumption) (by rfl)) ?_)) <;> (first | refine AI rfl ?_ | (refine AE rfl ?_; refine CM rfl rfl (fun hc => ?_) (fun hc => ?_))) <;> ((first | refine AK rfl ?_ | refine AP rfl ?_); refine AB rfl ?_) <;> refine AB rfl ?_ <;> (first | refine AI rfl ?_ | (refine AE rfl ?_; refine AD rfl ?_)) <;> (first | refine AI rfl ?_ | (refine AE rfl ?_; refine AG rfl (Blk.cell (by assumption) (by rfl)) ?_)) <;> (first | refine AI rfl ?_ | (refine AE rfl ?_; refine AD rfl ?_)) <;> (first | refine AI rfl ?_ | (refine AE rfl ?_; refine AG rfl (Blk.cell (by assumption) (by rfl)) ?_)) <;> (first | refine AI rfl ?_ | (refine AE rfl ?_; (refine B0 rfl rfl (fun hc => ?_) (fun hc => ?_) <;> try omega))) <;> ((first | refine AK rfl ?_ | refine AP rfl ?_); refine AB rfl ?_) <;> refine AB rfl ?_ <;> (first | refine AI rfl ?_ | (refine AE rfl ?_; refine AD rfl ?_)))
 ·refine AE rfl (Ac (L := [c0, c1, c2, c3, c4]) rfl rfl ca ?_)
  refine AE rfl (AD rfl ?_)
  refine AE rfl (Ac (L := [d0, d1, d2, d3, d4]) rfl rfl cb ?_)
  refine AE rfl (AS (same_ok w2 _ _ r.formula s.formula (hcf.ext k2) (hdf.ext k2)) rfl ?_)
  rintro _ w3 ⟨b, rfl, hb, k3⟩
  refine AK rfl (AB rfl (AC (AB rfl ?_)))
  repeat refine nx rfl ?_
  exact AO rfl ⟨b, rfl, by rw [hb, rqm_eq]; exact ⟨fun h => ⟨by assumption, by assumption, by assumption, h⟩, fun h => h.2.2.2⟩, k2.trans k3⟩
 all_goals
  refine AI rfl (AI rfl (AI rfl (AI rfl (AP rfl (AB rfl (AC (AB rfl ?_)))))))
  repeat refine nx rfl ?_
  refine AO rfl ⟨false, rfl, ?_, k2⟩
  rw [rqm_eq]
  constructor
  ·intro h; cases h
  ·rintro ⟨h1, h2, h3, h4⟩
   exfalso
   first | exact absurd h1 (by assumption) | exact absurd h2 (by assumption) | exact absurd h3 (by assumption)
theorem Sl.recs {α : Type} {R : Rp α} {ok : Nat → Prop} {w : World} {a : Option Addr} {n cap k sz : Nat} {L : List (List Value)} {l : List α} {c : List Value} (h : Sl ok w (.slice a n cap) n L.flatten) (hR : RsAt R ok w L l) (hsz : R.size = sz) (hk : L[k]? = some c) (hn : k < n) :
  ∃ b o, a = some ⟨b, o, none⟩ ∧ ok b ∧ Cells w b (o + k * sz) c := by
 obtain ⟨a', cap', hv, h1, h2, h3, h4⟩ := h
 cases hv
 obtain ⟨b, o, rfl, hb, hc⟩ := h4.resolve_left (by omega)
 refine ⟨b, o, rfl, hb, fun j v hv => ?_⟩
 have := hc _ _ (Dc sz L k j c v (fun c hc => by rw [hR.len c hc, hsz]) hk hv)
 rwa [← Nat.add_assoc] at this
theorem SlAt.ext {α : Type} {R : Rp α} {ok : Nat → Prop} {w w' : World} {v : Value} {l : List α} (h : SlAt R ok w v l) (k : Ext w w') : SlAt R ok w' v l := by
 obtain ⟨a, c, L, e, h1, h2⟩ := h
 exact ⟨a, c, L, e, h1.ext k, h2.ext k⟩
theorem sameReqs_ok (w : World) (v v' : Value) (l m : List Rqm) (hl : SlAt reqR A0 w v l) (hm : SlAt reqR A0 w v' m) : Fn Tryz.prog 60 [v, v'] w fun v w' => ∃ b : Bool, v = .bool b ∧ (b = true ↔ l = m) ∧ Ext w w' := by
 obtain ⟨a, c, L, rfl, hS, hF⟩ := hl
 obtain ⟨a', c', M, rfl, hS', hF'⟩ := hm
 have hlm : l.length ≤ 9223372036854775807 := by obtain ⟨_, _, hv, g1, g2, _⟩ := id hS; cases hv; omega
 refine Ab Tryz.func60 rfl Tryz.ntmps60 (Nat.le_of_ble_eq_true rfl) (by kernel_rfl) ?_
 repeat refine nx rfl ?_
 refine AA (AC (AB rfl ?_))
 repeat refine nx rfl ?_
 by_cases hlen : l.length = m.length
 ·refine AA (Ae rfl (As rfl (Ae rfl (As rfl (W_neqF rfl rfl (by omega) ?_)))))
  repeat first | refine nx rfl ?_ | refine nf rfl ?_
  refine AA (AC (AF rfl ?_))
  repeat refine nx rfl ?_
  refine BJ (α := Nat) (fun k => [(0, .slice a l.length c), (1, .slice a' m.length c'), (5, .int .i64 (k : Int))]) (fun k W => k ≤ l.length ∧ Ext w W ∧ ∀ j, j < k → l[j]? = m[j]?) (fun k => l.length - k) 0 ⟨rfl, rfl, rfl, trivial⟩ ⟨by omega, Ext.refl _, fun j hj => by omega⟩ ?_
  rintro k w3 f3 ⟨hk, k3, hj⟩
  repeat refine nx rfl ?_
  by_cases hlt : k < l.length
  ·obtain ⟨x, hx⟩ : ∃ x, l[k]? = some x := ⟨_, List.getElem?_eq_getElem hlt⟩
   obtain ⟨y, hy⟩ : ∃ y, m[k]? = some y := ⟨_, List.getElem?_eq_getElem (by omega)⟩
   obtain ⟨cx, hcx⟩ : ∃ cx, L[k]? = some cx := ⟨_, List.getElem?_eq_getElem (by rw [hF.1]; exact hlt)⟩
   obtain ⟨cy, hcy⟩ : ∃ cy, M[k]? = some cy := ⟨_, List.getElem?_eq_getElem (by rw [hF'.1]; omega)⟩
   have fx := reqR.ext (hF.2 k cx x hcx hx) k3
   have fy := reqR.ext (hF'.2 k cy y hcy hy) k3
   obtain ⟨bx, ox, rfl, _, hcellx⟩ := (hS.ext k3).recs (hF.ext k3) (sz := 8) rfl hcx hlt
   obtain ⟨by', oy, rfl, _, hcelly⟩ := (hS'.ext k3).recs (hF'.ext k3) (sz := 8) rfl hcy (by omega)
   have hlx : cx.length = 8 := reqR.len fx
   have hly : cy.length = 8 := reqR.len fy
   refine AA (AF rfl (Ae rfl (As rfl (BC rfl rfl (by omega) ?_))))
   repeat refine nx rfl ?_
   refine Bb (.read 0 (.read 1 (.read 2 (.read 3 (.read 4 (.read 5 (.read 6 (.read 7 (.alt 8 (.read 9 .done) .stop))))))))) BP (by kernel_rfl) (fun wd kd ed => ⟨Ext wd, ?_, ?_⟩)
   ·exact Ext.refl _
   refine D_R rfl rfl (fun W hW => by refine Az ?_; exact AJ ⟨rfl, rfl, rfl⟩) ?_
   refine D_R rfl rfl (fun W hW => by refine Az ?_; exact AJ ⟨rfl, rfl, rfl⟩) ?_
   refine D_R rfl rfl (fun W hW => by refine CD (k := k) rfl rfl rfl (by omega) ?_; exact AJ ⟨rfl, rfl, rfl⟩) ?_
   refine D_R (v := .agg cx.toArray) rfl rfl (fun W hW => by refine Ac rfl hlx ((hcellx.keep kd (by simp)).keep hW (by simp)) ?_; exact AJ ⟨rfl, rfl, rfl⟩) ?_
   refine D_R rfl rfl (fun W hW => by refine Az ?_; exact AJ ⟨rfl, rfl, rfl⟩) ?_
   refine D_R rfl rfl (fun W hW => by refine Az ?_; exact AJ ⟨rfl, rfl, rfl⟩) ?_
   refine D_R rfl rfl (fun W hW => by refine CD (k := k) rfl rfl rfl (by omega) ?_; exact AJ ⟨rfl, rfl, rfl⟩) ?_
   refine D_R (v := .agg cy.toArray) rfl rfl (fun W hW => by refine Ac rfl hly ((hcelly.keep kd (by simp)).keep hW (by simp)) ?_; exact AJ ⟨rfl, rfl, rfl⟩) ?_
   refine D_E rfl ?_
   refine AS (sameReq_ok wd cx cy x y (reqR.ext fx kd) (reqR.ext fy kd)) rfl ?_
   rintro _ w6 ⟨b, rfl, hb, k6⟩
   refine AJ ⟨Ext w6, fun W e => k6.trans e, Ext.refl _, ?_⟩
   refine D_R rfl rfl (fun W hW => AC (AB rfl Z3)) (A8 ?_)
   repeat refine nx rfl ?_
   refine AA (AB rfl (A9 rfl (AJ ?_)))
   cases b with
   | true =>
    have hxy := hb.1 rfl
    subst hxy
    repeat first | refine nx rfl ?_ | refine nf rfl ?_
    (refine AA (AF rfl (BK rfl rfl (by first | exact Am (by omega) (by omega) | exact At (by omega) (by omega) | exact Al (by omega) (by omega)) ?_)) <;> refine AC (AF rfl ?_))
    repeat refine nx rfl ?_
    refine ⟨k + 1, ⟨rfl, ⟨rfl, rfl, ?_, trivial⟩, ⟨by omega, (k3.trans kd).trans k6, fun j hjj => ?_⟩⟩, by omega⟩
    ·show Value.int .i64 ((k : Int) + 1) = _
     rw [Int.natCast_add]; rfl
    ·by_cases hjk : j = k
     ·subst hjk; rw [hx, hy]
     ·exact hj j (by omega)
   | false =>
    repeat refine nx rfl ?_
    refine AA (AC (AB rfl ?_))
    repeat refine nx rfl ?_
    refine AO rfl ⟨false, rfl, ?_, (k3.trans kd).trans k6⟩
    constructor
    ·intro h; cases h
    ·intro h
     exfalso
     have e1 : x = y := by rw [h, hy] at hx; exact (Option.some.inj hx).symm
     have := hb.2 e1
     cases this
  ·refine AA (AF rfl (Ae rfl (As rfl (BA rfl rfl (by omega) ?_))))
   repeat first | refine nx rfl ?_ | refine nf rfl ?_
   refine AA (AC (AB rfl ?_))
   repeat refine nx rfl ?_
   refine AO rfl ⟨true, rfl, ?_, k3⟩
   refine ⟨fun _ => List.ext_getElem? fun i => ?_, fun _ => rfl⟩
   by_cases hi : i < k
   ·exact hj i hi
   ·rw [List.getElem?_eq_none (by omega), List.getElem?_eq_none (by omega)]
 ·refine AA (Ae rfl (As rfl (Ae rfl (As rfl (W_neqT rfl rfl (by omega) ?_)))))
  repeat refine nx rfl ?_
  refine AA (AC (AB rfl ?_))
  repeat refine nx rfl ?_
  exact AO rfl ⟨false, rfl, ⟨fun h => (by cases h), fun h => absurd (by rw [h]) hlen⟩, Ext.refl _⟩
theorem sgn_same (x y : Sgn) : ∀ p ∈ [(0, 9), (1, 4), (2, 3)], ∃ a b, (Cb x)[p.1]? = some a ∧ (Cb y)[p.1]? = some b ∧ sameSort Tryz.prog p.2 a b := by
 intro p hp
 simp only [List.mem_cons, List.not_mem_nil, or_false] at hp
 rcases hp with rfl | rfl | rfl
 ·exact ⟨_, _, rfl, rfl, Tryz.underlying9⟩
 ·exact ⟨_, _, rfl, rfl, Tryz.underlying4⟩
 ·exact ⟨_, _, rfl, rfl, rfl, Tryz.underlying3⟩
theorem sgn_eq {x y : Sgn} (h : ∀ p ∈ ([(0, 9), (1, 4), (2, 3)] : List (Nat × TypeId)), (Cb x)[p.1]? = (Cb y)[p.1]?) : x = y := by
 have h0 := h (0, 9) (by simp)
 have h1 := h (1, 4) (by simp)
 have h2 := h (2, 3) (by simp)
 cases x; cases y
 simp [Cb] at h0 h1 h2
 simp [h0, h1, h2]
theorem sameSgn_ok (w : World) (v v' : Value) (l m : List Sgn) (hl : SlAt sgnR A0 w v l) (hm : SlAt sgnR A0 w v' m) : Fn Tryz.prog 59 [v, v'] w fun v w' => ∃ b : Bool, v = .bool b ∧ (b = true ↔ l = m) ∧ Ext w w' := by
 obtain ⟨a, c, L, rfl, hS, hF⟩ := hl
 obtain ⟨a', c', M, rfl, hS', hF'⟩ := hm
 have hlm : l.length ≤ 9223372036854775807 := by obtain ⟨_, _, hv, g1, g2, _⟩ := id hS; cases hv; omega
 refine Ab Tryz.func59 rfl Tryz.ntmps59 (Nat.le_of_ble_eq_true rfl) (by kernel_rfl) ?_
 repeat refine nx rfl ?_
 refine AA (AC (AB rfl ?_))
 repeat refine nx rfl ?_
 by_cases hlen : l.length = m.length
 ·refine AA (Ae rfl (As rfl (Ae rfl (As rfl (W_neqF rfl rfl (by omega) ?_)))))
  repeat first | refine nx rfl ?_ | refine nf rfl ?_
  refine AA (AC (AF rfl ?_))
  repeat refine nx rfl ?_
  refine BJ (α := Nat) (fun k => [(0, .slice a l.length c), (1, .slice a' m.length c'), (5, .int .i64 (k : Int))]) (fun k W => k ≤ l.length ∧ Ext w W ∧ ∀ j, j < k → l[j]? = m[j]?) (fun k => l.length - k) 0 ⟨rfl, rfl, rfl, trivial⟩ ⟨by omega, Ext.refl _, fun j hj => by omega⟩ ?_
  rintro k w3 f3 ⟨hk, k3, hj⟩
  repeat refine nx rfl ?_
  by_cases hlt : k < l.length
  ·obtain ⟨x, hx⟩ : ∃ x, l[k]? = some x := ⟨_, List.getElem?_eq_getElem hlt⟩
   obtain ⟨y, hy⟩ : ∃ y, m[k]? = some y := ⟨_, List.getElem?_eq_getElem (by omega)⟩
   obtain ⟨cx, hcx⟩ : ∃ cx, L[k]? = some cx := ⟨_, List.getElem?_eq_getElem (by rw [hF.1]; exact hlt)⟩
   obtain ⟨cy, hcy⟩ : ∃ cy, M[k]? = some cy := ⟨_, List.getElem?_eq_getElem (by rw [hF'.1]; omega)⟩
   obtain rfl : cx = Cb x := hF.2 k cx x hcx hx
   obtain rfl : cy = Cb y := hF'.2 k cy y hcy hy
   obtain ⟨bx, ox, rfl, _, hcellx⟩ := (hS.ext k3).recs (hF.ext k3) (sz := 3) rfl hcx hlt
   obtain ⟨by', oy, rfl, _, hcelly⟩ := (hS'.ext k3).recs (hF'.ext k3) (sz := 3) rfl hcy (by omega)
   refine AA (AF rfl (Ae rfl (As rfl (BC rfl rfl (by omega) ?_))))
   repeat refine nx rfl ?_
   refine Bb (.read 0 (.read 1 (.read 2 (.read 3 (.read 4 (.read 5 (.read 6 (.read 7 (.read 8 .done))))))))) BP (by kernel_rfl) (fun wd kd ed => ⟨fun W => W = wd, ?_, ?_⟩)
   ·rfl
   refine D_R rfl rfl (fun W hW => by refine Az ?_; exact AJ ⟨rfl, rfl, rfl⟩) ?_
   refine D_R rfl rfl (fun W hW => by refine Az ?_; exact AJ ⟨rfl, rfl, rfl⟩) ?_
   refine D_R rfl rfl (fun W hW => by refine CD (k := k) rfl rfl rfl (by omega) ?_; exact AJ ⟨rfl, rfl, rfl⟩) ?_
   refine D_R (v := .agg (Cb x).toArray) rfl rfl (fun W hW => by subst hW; refine Ac rfl rfl (hcellx.keep kd (by simp)) ?_; exact AJ ⟨rfl, rfl, rfl⟩) ?_
   refine D_R rfl rfl (fun W hW => by refine Az ?_; exact AJ ⟨rfl, rfl, rfl⟩) ?_
   refine D_R rfl rfl (fun W hW => by refine Az ?_; exact AJ ⟨rfl, rfl, rfl⟩) ?_
   refine D_R rfl rfl (fun W hW => by refine CD (k := k) rfl rfl rfl (by omega) ?_; exact AJ ⟨rfl, rfl, rfl⟩) ?_
   refine D_R (v := .agg (Cb y).toArray) rfl rfl (fun W hW => by subst hW; refine Ac rfl rfl (hcelly.keep kd (by simp)) ?_; exact AJ ⟨rfl, rfl, rfl⟩) ?_
   by_cases hxy : x = y
   ·subst hxy
    refine D_R (v := .bool false) rfl rfl (fun W hW => ?_) ?_
    ·refine W_flNeq (xs := Cb x) (ys := Cb x) rfl rfl (sgn_same x x) (fun r hr => ?_)
     obtain rfl : r = true := hr.2 fun _ _ => rfl
     exact AJ ⟨rfl, rfl, rfl⟩
    refine A8 ?_
    repeat first | refine nx rfl ?_ | refine nf rfl ?_
    (refine AA (AF rfl (BK rfl rfl (by first | exact Am (by omega) (by omega) | exact At (by omega) (by omega) | exact Al (by omega) (by omega)) ?_)) <;> refine AC (AF rfl ?_))
    repeat refine nx rfl ?_
    refine ⟨k + 1, ⟨rfl, ⟨rfl, rfl, ?_, trivial⟩, ⟨by omega, k3.trans kd, fun j hjj => ?_⟩⟩, by omega⟩
    ·show Value.int .i64 ((k : Int) + 1) = _
     rw [Int.natCast_add]; rfl
    ·by_cases hjk : j = k
     ·subst hjk; rw [hx, hy]
     ·exact hj j (by omega)
   ·refine D_R (v := .bool true) rfl rfl (fun W hW => ?_) ?_
    ·refine W_flNeq (xs := Cb x) (ys := Cb y) rfl rfl (sgn_same x y) (fun r hr => ?_)
     obtain rfl : r = false := by
      cases r with
      | false => rfl
      | true => exact absurd (sgn_eq (hr.1 rfl)) hxy
     exact AJ ⟨rfl, rfl, rfl⟩
    refine A8 ?_
    repeat refine nx rfl ?_
    refine AA (AC (AB rfl ?_))
    repeat refine nx rfl ?_
    refine AO rfl ⟨false, rfl, ?_, k3.trans kd⟩
    constructor
    ·intro h; cases h
    ·intro h
     exfalso
     apply hxy
     rw [h, hy] at hx; exact (Option.some.inj hx).symm
  ·refine AA (AF rfl (Ae rfl (As rfl (BA rfl rfl (by omega) ?_))))
   repeat first | refine nx rfl ?_ | refine nf rfl ?_
   refine AA (AC (AB rfl ?_))
   repeat refine nx rfl ?_
   refine AO rfl ⟨true, rfl, ?_, k3⟩
   refine ⟨fun _ => List.ext_getElem? fun i => ?_, fun _ => rfl⟩
   by_cases hi : i < k
   ·exact hj i hi
   ·rw [List.getElem?_eq_none (by omega), List.getElem?_eq_none (by omega)]
 ·refine AA (Ae rfl (As rfl (Ae rfl (As rfl (W_neqT rfl rfl (by omega) ?_)))))
  repeat refine nx rfl ?_
  refine AA (AC (AB rfl ?_))
  repeat refine nx rfl ?_
  exact AO rfl ⟨false, rfl, ⟨fun h => (by cases h), fun h => absurd (by rw [h]) hlen⟩, Ext.refl _⟩
theorem spc_eq {r s : Spc} : r = s ↔ r.sigs = s.sigs ∧ r.reqs = s.reqs := by
 obtain ⟨a, b⟩ := r; obtain ⟨a', b'⟩ := s; simp
theorem sameSpec_ok (w : World) (c d : List Value) (r s : Spc) (hr : spcR.fits A0 w c r) (hs : spcR.fits A0 w d s) : Fn Tryz.prog 25 [.agg c.toArray, .agg d.toArray] w fun v w' => ∃ b : Bool, v = .bool b ∧ (b = true ↔ r = s) ∧ Ext w w' := by
 obtain ⟨sv, rv, rfl, h1, h2⟩ := hr
 obtain ⟨sv', rv', rfl, h1', h2'⟩ := hs
 have e1 := h1
 have e2 := h2
 have e1' := h1'
 have e2' := h2'
 obtain ⟨_, _, _, rfl, _⟩ := e1
 obtain ⟨_, _, _, rfl, _⟩ := e2
 obtain ⟨_, _, _, rfl, _⟩ := e1'
 obtain ⟨_, _, _, rfl, _⟩ := e2'
 refine Ab Tryz.func25 rfl Tryz.ntmps25 (Nat.le_of_ble_eq_true rfl) (by kernel_rfl) ?_
 repeat refine nx rfl ?_
 (refine AA ?_; refine Bq (L := [_, _]) rfl (fun w1 n1 => ?_))
 refine Bq (L := [_, _]) rfl (fun w2 n2 => ?_)
 have a2 := n1.blk.keep n2.keep (by simp)
 have b2 := n2.blk
 have k2 : Ext w w2 := n1.keep.trans n2.keep
 refine AC (AB rfl ?_)
 repeat refine nx rfl ?_
 (refine AA (AD rfl (AG rfl (Blk.cell (by assumption) (by rfl)) ?_)) <;> refine AD rfl (AG rfl (Blk.cell (by assumption) (by rfl)) ?_))
 refine AS (sameSgn_ok w2 _ _ _ _ (h1.ext k2) (h1'.ext k2)) rfl ?_
 rintro _ w3 ⟨b, rfl, hb, k3⟩
 have a3 := a2.keep k3 (by simp)
 have b3 := b2.keep k3 (by simp)
 cases b with
 | true =>
  (refine AB rfl (AE rfl (AD rfl (AE rfl (AG rfl (Blk.cell (by assumption) (by rfl)) ?_)))) <;> refine AE rfl (AD rfl (AE rfl (AG rfl (Blk.cell (by assumption) (by rfl)) ?_))))
  refine AE rfl (AS (sameReqs_ok w3 _ _ _ _ ((h2.ext k2).ext k3) ((h2'.ext k2).ext k3)) rfl ?_)
  rintro _ w4 ⟨b, rfl, hb2, k4⟩
  refine AK rfl (AB rfl (AC (AB rfl ?_)))
  repeat refine nx rfl ?_
  exact AO rfl ⟨b, rfl, by rw [hb2, spc_eq]; exact ⟨fun h => ⟨hb.1 rfl, h⟩, fun h => h.2⟩, (k2.trans k3).trans k4⟩
 | false =>
  refine AB rfl (AI rfl (AI rfl (AI rfl (AI rfl ?_))))
  refine AI rfl (AP rfl (AB rfl (AC (AB rfl ?_))))
  repeat refine nx rfl ?_
  refine AO rfl ⟨false, rfl, ?_, k2.trans k3⟩
  rw [spc_eq]
  exact ⟨fun h => (by cases h), fun h => absurd (hb.2 h.1) (by simp)⟩
end Go.Proofs.YtfcgdbmoncnibaaGreatDoor
namespace Go.Proofs.YtfcgdbmoncnibaaGreatDoor
open Go.RowKit
set_option linter.unusedVariables false
variable {mk : Prop} [MK mk]
theorem infixes_ok (w : World) : Fn Tryz.prog 90 [] w fun v w' => ∃ m, v = .map (some m) ∧ w.heap.size ≤ m ∧ Ext w w' ∧ SMap w' m (tabV infixT) := by
 refine Ab Tryz.func90 rfl Tryz.ntmps90 (Nat.le_of_ble_eq_true rfl) (by kernel_rfl) ?_
 repeat refine nx rfl ?_
 refine AA (AC (M_map rfl ?_))
 repeat refine nx rfl ?_
 refine AA ?_
 refine W_makeMapS (fun w1 k1 z1 b1 => ?_)
 refine Ad (by rfl) (by rfl) ?_
 refine CO (x := [85]) (y := oprV ⟨9, 0, 0⟩) rfl rfl rfl b1 rfl (fun w2 k2 z2 b2 => ?_)
 refine Ad (by rfl) (by rfl) ?_
 refine CO (x := [82]) (y := oprV ⟨10, 0, 0⟩) rfl rfl rfl b2 rfl (fun w3 k3 z3 b3 => ?_)
 refine Ad (by rfl) (by rfl) ?_
 refine CO (x := [83]) (y := oprV ⟨16, 16, 0⟩) rfl rfl rfl b3 rfl (fun w4 k4 z4 b4 => ?_)
 refine Ad (by rfl) (by rfl) ?_
 refine CO (x := [84]) (y := oprV ⟨17, 17, 1⟩) rfl rfl rfl b4 rfl (fun w5 k5 z5 b5 => ?_)
 refine M_map rfl (AC (M_map rfl ?_))
 repeat refine nx rfl ?_
 exact AO rfl ⟨w.heap.size, rfl, Nat.le_refl _, (((k1.keep k2 (by simp)).keep k3 (by simp)).keep k4 (by simp)).keep k5 (by simp), b5⟩
theorem prefixes_ok (w : World) : Fn Tryz.prog 89 [] w fun v w' => ∃ m, v = .map (some m) ∧ w.heap.size ≤ m ∧ Ext w w' ∧ SMap w' m (tabV prefixT) := by
 refine Ab Tryz.func89 rfl Tryz.ntmps89 (Nat.le_of_ble_eq_true rfl) (by kernel_rfl) ?_
 repeat refine nx rfl ?_
 refine AA (AC (M_map rfl ?_))
 repeat refine nx rfl ?_
 refine AA ?_
 refine W_makeMapS (fun w1 k1 z1 b1 => ?_)
 refine Ad (by rfl) (by rfl) ?_
 refine CO (x := [33]) (y := oprV ⟨4, 0, 0⟩) rfl rfl rfl b1 rfl (fun w2 k2 z2 b2 => ?_)
 refine Ad (by rfl) (by rfl) ?_
 refine CO (x := [88]) (y := oprV ⟨8, 0, 0⟩) rfl rfl rfl b2 rfl (fun w3 k3 z3 b3 => ?_)
 refine Ad (by rfl) (by rfl) ?_
 refine CO (x := [89]) (y := oprV ⟨15, 0, 0⟩) rfl rfl rfl b3 rfl (fun w4 k4 z4 b4 => ?_)
 refine Ad (by rfl) (by rfl) ?_
 refine CO (x := [90]) (y := oprV ⟨15, 0, 1⟩) rfl rfl rfl b4 rfl (fun w5 k5 z5 b5 => ?_)
 refine Ad (by rfl) (by rfl) ?_
 refine CO (x := [79]) (y := oprV ⟨18, 0, 0⟩) rfl rfl rfl b5 rfl (fun w6 k6 z6 b6 => ?_)
 refine Ad (by rfl) (by rfl) ?_
 refine CO (x := [72]) (y := oprV ⟨19, 0, 0⟩) rfl rfl rfl b6 rfl (fun w7 k7 z7 b7 => ?_)
 refine Ad (by rfl) (by rfl) ?_
 refine CO (x := [70]) (y := oprV ⟨11, 13, 0⟩) rfl rfl rfl b7 rfl (fun w8 k8 z8 b8 => ?_)
 refine Ad (by rfl) (by rfl) ?_
 refine CO (x := [71]) (y := oprV ⟨12, 14, 0⟩) rfl rfl rfl b8 rfl (fun w9 k9 z9 b9 => ?_)
 refine M_map rfl (AC (M_map rfl ?_))
 repeat refine nx rfl ?_
 exact AO rfl ⟨w.heap.size, rfl, Nat.le_refl _, (((((((k1.keep k2 (by simp)).keep k3 (by simp)).keep k4 (by simp)).keep k5 (by simp)).keep k6 (by simp)).keep k7 (by simp)).keep k8 (by simp)).keep k9 (by simp), b9⟩
theorem takeWhile_all {p : UInt8 → Bool} : ∀ {l : List UInt8}, (l.takeWhile p).length = l.length → ∀ c ∈ l, p c = true
 | [], _, c, hc => by cases hc
 | x :: l, h, c, hc => by
  rw [List.takeWhile_cons] at h
  cases hp : p x with
  | false => rw [hp] at h; simp at h
  | true =>
   rw [hp] at h
   simp at h
   rcases List.mem_cons.1 hc with rfl | hc
   ·exact hp
   ·exact takeWhile_all h c hc
theorem Alone.wf {k : Int} {y : List UInt8} (h : Alone k y) : k = 2 → 1 ≤ y.length ∧ y.length ≤ 4 ∧ ∀ c ∈ y, Ap c = true := by
 rintro rfl
 obtain ⟨h1, h2, h3⟩ := h
 refine ⟨h1, ?_⟩
 unfold BQ at h3
 split at h3
 ·simp [blankM] at h3
 ·simp [commM] at h3
 ·unfold DZ at h3
  split at h3
  ·cases h3
  ·have := (addM_le h3).1; simp at this
 ·unfold DX at h3
  split at h3
  ·cases h3
  ·rename_i hb
   have e := Ci h3
   have hd : ((y.takeWhile Ap).length) = y.length := by simpa [Aj] using e.symm
   refine ⟨?_, takeWhile_all hd⟩
   have hb' : BL y 0 = false := by simpa using hb
   unfold BL at hb'
   rw [← e] at hb'
   simp at hb'
   omega
 ·unfold symM at h3
  split at h3
  ·have := (addM_le h3).1; simp at this
  ·cases h3
 ·cases h3
theorem Reach1.cap {t : List UInt8} {a b : Nat} {ts tsb : List Tok} (h : Reach1 t a ts b tsb) (hc : ts.length ≤ 2000) : tsb.length ≤ 2000 := by
 induction h with
 | refl => exact hc
 | step h hs hr ih =>
  rename_i a a1 b ts ts1 tsb
  refine ih ?_
  rcases step_shape hs with rfl | ⟨k, rfl⟩
  ·exact hc
  ·have : ts.length ≠ 2000 := by
    intro e
    unfold BQ at hs
    split at hs
    ·simp [blankM] at hs
    ·simp [commM] at hs
    ·unfold DZ at hs
     split at hs
     ·cases hs
     ·exact (addM_le hs).2 e
    ·unfold DX at hs
     split at hs
     ·cases hs
     ·exact (addM_le hs).2 e
    ·unfold symM at hs
     split at hs
     ·exact (addM_le hs).2 e
     ·cases hs
    ·cases hs
   simp; omega
theorem lexM_toks {t : List UInt8} {ts : List Tok} (h : DK t = .ok ts) : t.length ≤ 6000 ∧ ts.length ≤ 2000 ∧ ∀ x ∈ ts, TokWf x := by
 obtain ⟨hl, hr⟩ := lexM_ok h
 exact ⟨hl, hr.cap (by simp), fun x hx => ((hr.alone (Nat.le_refl _) (fun x hx => by cases hx)) x hx).wf⟩
end Go.Proofs.YtfcgdbmoncnibaaGreatDoor
namespace Go.Proofs.YtfcgdbmoncnibaaGreatDoor
open Go.RowKit
set_option linter.unusedVariables false
variable {mk : Prop} [MK mk]
theorem recRet_F (w : World) (c2 c3 c4 : Nat) : CallsDIn Fence.wide 0 Tryz.prog 104 ([] ++ [pt c2, pt c3, pt c4] : List Value).toArray .returning w (fun e u' w' => match e with | .returned _ => u' = .returning ∧ Ext w w' | _ => False) := by
 refine C0 (u1 := .returning) (v0 := .nilIface) (G := fun _ w' => Ext w w') (args := [pt c2, pt c3, pt c4]) Tryz.func104 rfl Tryz.ntmps104 (by simp) (by decide) (by kernel_rfl) (by kernel_rfl) (.inl ⟨rfl, rfl, rfl⟩) ?_
 refine W_assert_nil (z := .agg #[.int .i64 0, .int .i64 0]) rfl (by kernel_rfl) ?_
 refine Bp rfl (Ag rfl rfl (Ag rfl rfl ?_))
 refine BE (cs := [.int .i64 0, .int .i64 0]) rfl rfl (by rfl) (BG rfl) (fun w2 n2 => ?_)
 refine AC (AB rfl ?_)
 repeat refine nx rfl ?_
 refine AA (AB rfl ?_)
 repeat first | refine nx rfl ?_ | refine nf rfl ?_
 exact A1 rfl n2.keep
theorem recPan_F (w : World) (c2 c3 c4 : Nat) (L2 : List Value) (x3 x4 : Value) (e q : Int) (d2 : Blk w c2 24 L2) (hL2 : L2.length = ([.int .i64 0, AL [], .int .i64 0, .int .i64 0, .slice none 0 0] : List Value).length) (d3 : Blk w c3 44 [x3]) (d4 : Blk w c4 3 [x4]) (h23 : c2 ≠ c3) (h24 : c2 ≠ c4) (h34 : c3 ≠ c4) :
  CallsDIn Fence.wide 0 Tryz.prog 104 ([] ++ [pt c2, pt c3, pt c4] : List Value).toArray (.panicking [{ v := .iface 145 (.agg #[.int .i64 e, .int .i64 q]), recovered := false }]) w
   (fun en u' w' => match en with | .returned _ => u' = .panicking [{ v := .iface 145 (.agg #[.int .i64 e, .int .i64 q]), recovered := true }] ∧ (Keep [c2, c3, c4] w w' ∧ Blk w' c2 24 [.int .i64 0, AL [], .int .i64 0, .int .i64 0, .slice none 0 0] ∧ Blk w' c3 44 [.int .i64 e] ∧ Blk w' c4 3 [.int .i64 q]) | _ => False) := by
 have l2 := d2.lt
 have l3 := d3.lt
 have l4 := d4.lt
 refine C0 (u1 := .panicking [{ v := .iface 145 (.agg #[.int .i64 e, .int .i64 q]), recovered := true }]) (v0 := .iface 145 (.agg #[.int .i64 e, .int .i64 q]))
  (G := fun _ w' => Keep [c2, c3, c4] w w' ∧ Blk w' c2 24 [.int .i64 0, AL [], .int .i64 0, .int .i64 0, .slice none 0 0] ∧ Blk w' c3 44 [.int .i64 e] ∧ Blk w' c4 3 [.int .i64 q]) (args := [pt c2, pt c3, pt c4]) Tryz.func104 rfl Tryz.ntmps104 (by simp) (by decide) (by kernel_rfl) (by kernel_rfl) (.inr ⟨_, rfl, rfl, rfl⟩) ?_
 refine W_assert_yes rfl ?_
 refine Bp rfl (Ag rfl rfl (Ag rfl rfl ?_))
 refine BE (cs := [.int .i64 e, .int .i64 q]) rfl rfl (by rfl) (BG rfl) (fun w2 n2 => ?_)
 have b2 := n2.blk
 have z2 := n2.size
 refine AC (AB rfl ?_)
 repeat refine nx rfl ?_
 refine AA (AB rfl ?_)
 repeat refine nx rfl ?_
 refine AA ?_
 refine Ay (fun w3 n3 => ?_)
 have z3 := n3.size
 have b3 : Blk w3 w2.heap.size 24 [.int .i64 0, AL [], .int .i64 0, .int .i64 0, .slice none 0 0] := n3.blk
 replace b2 := b2.keep n3.keep (by simp)
 have k3 : Ext w w3 := n2.keep.trans n3.keep
 replace d2 := d2.keep k3 (by simp)
 replace d3 := d3.keep k3 (by simp)
 replace d4 := d4.keep k3 (by simp)
 repeat refine nx rfl ?_
 refine Bb (.read 0 (.read 1 (.read 2 (.read 3 (.read 4 (.alt 5 (.alt 6 (.alt 7 .done .stop) .stop) .stop)))))) BP (by kernel_rfl) (fun wd kd ed => ⟨fun W => W.cell? ⟨w.heap.size, 0, none⟩ = some (.int .i64 e) ∧ W.cell? ⟨w.heap.size, 1, none⟩ = some (.int .i64 q) ∧ Cells W w2.heap.size 0 [.int .i64 0, AL [], .int .i64 0, .int .i64 0, .slice none 0 0], ?_, ?_⟩)
 ·exact ⟨(b2.keep kd (by simp)).cell rfl, (b2.keep kd (by simp)).cell rfl, (b3.keep kd (by simp)).cells⟩
 have fc0 : ∀ W : World, (W.cell? ⟨w.heap.size, 0, none⟩ = some (.int .i64 e) ∧ W.cell? ⟨w.heap.size, 1, none⟩ = some (.int .i64 q) ∧ Cells W w2.heap.size 0 [.int .i64 0, AL [], .int .i64 0, .int .i64 0, .slice none 0 0]) → W.cell? ⟨w.heap.size, 0, none⟩ = some (.int .i64 e) := fun W h => h.1
 have fc1 : ∀ W : World, (W.cell? ⟨w.heap.size, 0, none⟩ = some (.int .i64 e) ∧ W.cell? ⟨w.heap.size, 1, none⟩ = some (.int .i64 q) ∧ Cells W w2.heap.size 0 [.int .i64 0, AL [], .int .i64 0, .int .i64 0, .slice none 0 0]) → W.cell? ⟨w.heap.size, 1, none⟩ = some (.int .i64 q) := fun W h => h.2.1
 have fc2 : ∀ W : World, (W.cell? ⟨w.heap.size, 0, none⟩ = some (.int .i64 e) ∧ W.cell? ⟨w.heap.size, 1, none⟩ = some (.int .i64 q) ∧ Cells W w2.heap.size 0 [.int .i64 0, AL [], .int .i64 0, .int .i64 0, .slice none 0 0]) → Cells W w2.heap.size 0 [.int .i64 0, AL [], .int .i64 0, .int .i64 0, .slice none 0 0] := fun W h => h.2.2
 replace b2 := b2.keep kd (by simp)
 replace b3 := b3.keep kd (by simp)
 replace d2 := d2.keep kd (by simp)
 replace d3 := d3.keep kd (by simp)
 replace d4 := d4.keep kd (by simp)
 have k : Keep [c2, c3, c4] w wd := (k3.trans kd).any
 ((apply D_R rfl rfl; (intro W hW; refine Ac rfl (by rfl) (fc2 W hW) ?_; exact Z3)) <;> refine D_R rfl rfl (fun W hW => AD rfl Z3) (D_R rfl rfl (fun W hW => AG rfl (fc0 W hW) Z3) (D_R rfl rfl (fun W hW => AD rfl Z3) (D_R rfl rfl (fun W hW => AG rfl (fc1 W hW) Z3) ?_))))
 refine D_E rfl ?_
 refine AZ (cs := [.int .i64 0, AL [], .int .i64 0, .int .i64 0, .slice none 0 0]) rfl rfl rfl (BG rfl) d2 (by rw [hL2]; simp) (fun W p => ?_)
 have bb := p.blk
 rw [B4 L2 [.int .i64 0, AL [], .int .i64 0, .int .i64 0, .slice none 0 0] (by rw [hL2])] at bb
 replace d3 := d3.keep p.keep (by simp; omega)
 replace d4 := d4.keep p.keep (by simp; omega)
 replace b2 := b2.keep p.keep (by simp; omega)
 replace b3 := b3.keep p.keep (by simp; omega)
 replace k := k.trans p.keep (by simp)
 clear d2 p
 have d2 := bb
 refine AJ ⟨_, fun _ h => h, ⟨b2.cell rfl, b2.cell rfl, b3.cells⟩, ?_⟩
 refine D_E rfl ?_
 refine Ao rfl rfl rfl d3 (by simp) (fun W2 p => ?_)
 have bb3 := p.blk
 replace d2 := d2.keep p.keep (by simp; omega)
 replace d4 := d4.keep p.keep (by simp; omega)
 replace b2 := b2.keep p.keep (by simp; omega)
 replace b3 := b3.keep p.keep (by simp; omega)
 replace k := k.trans p.keep (by simp)
 clear d3 p
 refine AJ ⟨_, fun _ h => h, ⟨b2.cell rfl, b2.cell rfl, b3.cells⟩, ?_⟩
 refine D_E rfl ?_
 refine Ao rfl rfl rfl d4 (by simp) (fun W3 p => ?_)
 have bb4 := p.blk
 replace d2 := d2.keep p.keep (by simp; omega)
 replace bb3 := bb3.keep p.keep (by simp; omega)
 replace b2 := b2.keep p.keep (by simp; omega)
 replace b3 := b3.keep p.keep (by simp; omega)
 replace k := k.trans p.keep (by simp)
 refine AJ ⟨_, fun _ h => h, ⟨b2.cell rfl, b2.cell rfl, b3.cells⟩, ?_⟩
 refine A8 ?_
 repeat refine nx rfl ?_
 exact A1 rfl ⟨k, d2, bb3, bb4⟩
theorem recRet_S (w : World) (c2 c3 c4 : Nat) : CallsDIn Fence.wide 0 Tryz.prog 88 ([] ++ [pt c2, pt c3, pt c4] : List Value).toArray .returning w (fun e u' w' => match e with | .returned _ => u' = .returning ∧ Ext w w' | _ => False) := by
 refine C0 (u1 := .returning) (v0 := .nilIface) (G := fun _ w' => Ext w w') (args := [pt c2, pt c3, pt c4]) Tryz.func88 rfl Tryz.ntmps88 (by simp) (by decide) (by kernel_rfl) (by kernel_rfl) (.inl ⟨rfl, rfl, rfl⟩) ?_
 refine W_assert_nil (z := .agg #[.int .i64 0, .int .i64 0]) rfl (by kernel_rfl) ?_
 refine Bp rfl (Ag rfl rfl (Ag rfl rfl ?_))
 refine BE (cs := [.int .i64 0, .int .i64 0]) rfl rfl (by rfl) (BG rfl) (fun w2 n2 => ?_)
 refine AC (AB rfl ?_)
 repeat refine nx rfl ?_
 refine AA (AB rfl ?_)
 repeat first | refine nx rfl ?_ | refine nf rfl ?_
 exact A1 rfl n2.keep
theorem recPan_S (w : World) (c2 c3 c4 : Nat) (L2 : List Value) (x3 x4 : Value) (e q : Int) (d2 : Blk w c2 28 L2) (hL2 : L2.length = ([.slice none 0 0, .slice none 0 0] : List Value).length) (d3 : Blk w c3 44 [x3]) (d4 : Blk w c4 3 [x4]) (h23 : c2 ≠ c3) (h24 : c2 ≠ c4) (h34 : c3 ≠ c4) :
  CallsDIn Fence.wide 0 Tryz.prog 88 ([] ++ [pt c2, pt c3, pt c4] : List Value).toArray (.panicking [{ v := .iface 145 (.agg #[.int .i64 e, .int .i64 q]), recovered := false }]) w
   (fun en u' w' => match en with | .returned _ => u' = .panicking [{ v := .iface 145 (.agg #[.int .i64 e, .int .i64 q]), recovered := true }] ∧ (Keep [c2, c3, c4] w w' ∧ Blk w' c2 28 [.slice none 0 0, .slice none 0 0] ∧ Blk w' c3 44 [.int .i64 e] ∧ Blk w' c4 3 [.int .i64 q]) | _ => False) := by
 have l2 := d2.lt
 have l3 := d3.lt
 have l4 := d4.lt
 refine C0 (u1 := .panicking [{ v := .iface 145 (.agg #[.int .i64 e, .int .i64 q]), recovered := true }]) (v0 := .iface 145 (.agg #[.int .i64 e, .int .i64 q]))
  (G := fun _ w' => Keep [c2, c3, c4] w w' ∧ Blk w' c2 28 [.slice none 0 0, .slice none 0 0] ∧ Blk w' c3 44 [.int .i64 e] ∧ Blk w' c4 3 [.int .i64 q]) (args := [pt c2, pt c3, pt c4]) Tryz.func88 rfl Tryz.ntmps88 (by simp) (by decide) (by kernel_rfl) (by kernel_rfl) (.inr ⟨_, rfl, rfl, rfl⟩) ?_
 refine W_assert_yes rfl ?_
 refine Bp rfl (Ag rfl rfl (Ag rfl rfl ?_))
 refine BE (cs := [.int .i64 e, .int .i64 q]) rfl rfl (by rfl) (BG rfl) (fun w2 n2 => ?_)
 have b2 := n2.blk
 have z2 := n2.size
 refine AC (AB rfl ?_)
 repeat refine nx rfl ?_
 refine AA (AB rfl ?_)
 repeat refine nx rfl ?_
 refine AA ?_
 refine Ay (fun w3 n3 => ?_)
 have z3 := n3.size
 have b3 : Blk w3 w2.heap.size 28 [.slice none 0 0, .slice none 0 0] := n3.blk
 replace b2 := b2.keep n3.keep (by simp)
 have k3 : Ext w w3 := n2.keep.trans n3.keep
 replace d2 := d2.keep k3 (by simp)
 replace d3 := d3.keep k3 (by simp)
 replace d4 := d4.keep k3 (by simp)
 repeat refine nx rfl ?_
 refine Bb (.read 0 (.read 1 (.read 2 (.read 3 (.read 4 (.alt 5 (.alt 6 (.alt 7 .done .stop) .stop) .stop)))))) BP (by kernel_rfl) (fun wd kd ed => ⟨fun W => W.cell? ⟨w.heap.size, 0, none⟩ = some (.int .i64 e) ∧ W.cell? ⟨w.heap.size, 1, none⟩ = some (.int .i64 q) ∧ Cells W w2.heap.size 0 [.slice none 0 0, .slice none 0 0], ?_, ?_⟩)
 ·exact ⟨(b2.keep kd (by simp)).cell rfl, (b2.keep kd (by simp)).cell rfl, (b3.keep kd (by simp)).cells⟩
 have fc0 : ∀ W : World, (W.cell? ⟨w.heap.size, 0, none⟩ = some (.int .i64 e) ∧ W.cell? ⟨w.heap.size, 1, none⟩ = some (.int .i64 q) ∧ Cells W w2.heap.size 0 [.slice none 0 0, .slice none 0 0]) → W.cell? ⟨w.heap.size, 0, none⟩ = some (.int .i64 e) := fun W h => h.1
 have fc1 : ∀ W : World, (W.cell? ⟨w.heap.size, 0, none⟩ = some (.int .i64 e) ∧ W.cell? ⟨w.heap.size, 1, none⟩ = some (.int .i64 q) ∧ Cells W w2.heap.size 0 [.slice none 0 0, .slice none 0 0]) → W.cell? ⟨w.heap.size, 1, none⟩ = some (.int .i64 q) := fun W h => h.2.1
 have fc2 : ∀ W : World, (W.cell? ⟨w.heap.size, 0, none⟩ = some (.int .i64 e) ∧ W.cell? ⟨w.heap.size, 1, none⟩ = some (.int .i64 q) ∧ Cells W w2.heap.size 0 [.slice none 0 0, .slice none 0 0]) → Cells W w2.heap.size 0 [.slice none 0 0, .slice none 0 0] := fun W h => h.2.2
 replace b2 := b2.keep kd (by simp)
 replace b3 := b3.keep kd (by simp)
 replace d2 := d2.keep kd (by simp)
 replace d3 := d3.keep kd (by simp)
 replace d4 := d4.keep kd (by simp)
 have k : Keep [c2, c3, c4] w wd := (k3.trans kd).any
 ((apply D_R rfl rfl; (intro W hW; refine Ac rfl (by rfl) (fc2 W hW) ?_; exact Z3)) <;> refine D_R rfl rfl (fun W hW => AD rfl Z3) (D_R rfl rfl (fun W hW => AG rfl (fc0 W hW) Z3) (D_R rfl rfl (fun W hW => AD rfl Z3) (D_R rfl rfl (fun W hW => AG rfl (fc1 W hW) Z3) ?_))))
 refine D_E rfl ?_
 refine AZ (cs := [.slice none 0 0, .slice none 0 0]) rfl rfl rfl (BG rfl) d2 (by rw [hL2]; simp) (fun W p => ?_)
 have bb := p.blk
 rw [B4 L2 [.slice none 0 0, .slice none 0 0] (by rw [hL2])] at bb
 replace d3 := d3.keep p.keep (by simp; omega)
 replace d4 := d4.keep p.keep (by simp; omega)
 replace b2 := b2.keep p.keep (by simp; omega)
 replace b3 := b3.keep p.keep (by simp; omega)
 replace k := k.trans p.keep (by simp)
 clear d2 p
 have d2 := bb
 refine AJ ⟨_, fun _ h => h, ⟨b2.cell rfl, b2.cell rfl, b3.cells⟩, ?_⟩
 refine D_E rfl ?_
 refine Ao rfl rfl rfl d3 (by simp) (fun W2 p => ?_)
 have bb3 := p.blk
 replace d2 := d2.keep p.keep (by simp; omega)
 replace d4 := d4.keep p.keep (by simp; omega)
 replace b2 := b2.keep p.keep (by simp; omega)
 replace b3 := b3.keep p.keep (by simp; omega)
 replace k := k.trans p.keep (by simp)
 clear d3 p
 refine AJ ⟨_, fun _ h => h, ⟨b2.cell rfl, b2.cell rfl, b3.cells⟩, ?_⟩
 refine D_E rfl ?_
 refine Ao rfl rfl rfl d4 (by simp) (fun W3 p => ?_)
 have bb4 := p.blk
 replace d2 := d2.keep p.keep (by simp; omega)
 replace bb3 := bb3.keep p.keep (by simp; omega)
 replace b2 := b2.keep p.keep (by simp; omega)
 replace b3 := b3.keep p.keep (by simp; omega)
 replace k := k.trans p.keep (by simp)
 refine AJ ⟨_, fun _ h => h, ⟨b2.cell rfl, b2.cell rfl, b3.cells⟩, ?_⟩
 refine A8 ?_
 repeat refine nx rfl ?_
 exact A1 rfl ⟨k, d2, bb3, bb4⟩
end Go.Proofs.YtfcgdbmoncnibaaGreatDoor
namespace Go.Proofs.YtfcgdbmoncnibaaGreatDoor
open Go.RowKit
set_option linter.unusedVariables false
variable {mk : Prop} [MK mk]
def errOf {α : Type} (n : Nat) : Ans α → Except (Int × Nat) α
 | .ok y => .ok y.1
 | .error [] => .error (51, n)
 | .error (x :: _) => .error (50, x.loc)
def PRes (nt : NT) (t : List UInt8) (r : Except (Int × Nat) nt.T) : Prop :=
 match DK t with
 | .error e => r = .error e
 | .ok ts => ∃ a : Ans nt.T, Run (whole nt) ts a ∧ r = errOf t.length a
theorem PRes.det {nt : NT} {t : List UInt8} {r r' : Except (Int × Nat) nt.T} (h : PRes nt t r) (h' : PRes nt t r') : r = r' := by
 unfold PRes at h h'
 cases hm : DK t with
 | error e => rw [hm] at h h'; rw [h, h']
 | ok ts =>
  rw [hm] at h h'
  obtain ⟨a, h1, rfl⟩ := h
  obtain ⟨b, h2, rfl⟩ := h'
  rw [h1.det h2]
def RunAns {α : Type} (R : Rp α) (val : List Value → Value) (zero : List Value) (P : Except (Int × Nat) α → Prop) (w w' : World) (v : Value) : Prop :=
 ∃ c e q, v = .tuple #[val c, .int .i64 e, .int .i64 q] ∧ Ext w w' ∧ ((∃ a, P (.ok a) ∧ e = 0 ∧ q = -1 ∧ R.fits (fresh w) w' c a) ∨ ∃ p : Nat, P (.error (e, p)) ∧ e ≠ 0 ∧ q = (p : Int) ∧ c = zero)
theorem errV_ne {α : Type} (n : Nat) (l : List Tok) : ∃ e p, errV n l = failP e p ∧ (errOf n (.error l : Ans α)) = .error (e, p) ∧ e ≠ 0 := by
 cases l with
 | nil => exact ⟨51, n, rfl, rfl, by decide⟩
 | cons x l => exact ⟨50, x.loc, rfl, rfl, by decide⟩
theorem lexF (w : World) (t : List UInt8) (hG : GV w) : Fn Tryz.prog 38 [AL t] w fun v w' => ∃ a c e q ts, v = .tuple #[.slice a ts.length c, .int .i64 e, .int .i64 q] ∧ Ext w w' ∧ Sl (fun b => w.heap.size ≤ b ∧ b < w'.heap.size) w' (.slice a ts.length c) ts.length (C3 ts) ∧
  ((DK t = .ok ts ∧ e = 0 ∧ q = -1) ∨ ∃ p : Nat, DK t = .error (e, p) ∧ e ≠ 0 ∧ q = (p : Int) ∧ ts = []) := by
 refine (lex_ok w t hG).mono ?_
 rintro v w' ⟨tv, e, q, rfl, k, h⟩
 unfold LexAns at h
 cases hm : DK t with
 | ok ts =>
  rw [hm] at h
  obtain ⟨rfl, rfl, ho⟩ := h
  have hs := A3 (ok := fun b => w.heap.size ≤ b ∧ b < w'.heap.size) ho fun g hg => BM ho hg
  obtain ⟨a, c, rfl, hr⟩ := id hs
  exact ⟨a, c, 0, -1, ts, rfl, k, hs, .inl ⟨rfl, rfl, rfl⟩⟩
 | error r =>
  obtain ⟨e', p⟩ := r
  rw [hm] at h
  obtain ⟨rfl, rfl, rfl⟩ := h
  exact ⟨none, 0, e, p, [], rfl, k, ⟨_, _, rfl, by simp, by omega, fun _ => rfl, .inl rfl⟩, .inr ⟨p, rfl, lexM_err hm, rfl, rfl⟩⟩
theorem res_cellA {P : Program} {f : Fr} {w : World} {T n b t : Nat} {L : List Value} {l : List ResultVar} {k : List Value → Prop} [hT : AggT P T n] (ha : f t = .pointer (some ⟨b, 0, none⟩)) (hl : L.length = n) (hc : Cells w b 0 L) (h : Cz P l f w fun r => k (.agg L.toArray :: r)) : Cz P (.cell t T :: l) f w k :=
 ⟨_, _, ha, DR hT hl hc, h⟩
theorem run_F (w : World) (t : List UInt8) (hG : GK w) (hI : ∀ E N, ItemR fmlR aggV E N 65 (body .formula)) : Fn Tryz.prog 64 [AL t, .func (.func 65) #[] #[]] w (fun v w' => RunAns fmlR aggV [.int .i64 0, AL [], .int .i64 0, .int .i64 0, .slice none 0 0] (PRes .formula t) w w' v) := by
 have hgs := hG.gv.size
 refine fn_of_wcD Tryz.func64 rfl Tryz.ntmps64 (Nat.le_of_ble_eq_true rfl) (by kernel_rfl) ?_
 repeat refine nx rfl ?_
 refine AA ?_
 refine Ay (fun w1 n1 => ?_)
 refine Ay (fun w2 n2 => ?_)
 refine Ay (fun w3 n3 => ?_)
 have z1 := n1.size
 have z2 := n2.size
 have z3 := n3.size
 have b1 : Blk w3 w.heap.size 24 [.int .i64 0, AL [], .int .i64 0, .int .i64 0, .slice none 0 0] := (n1.blk.keep n2.keep (by simp)).keep n3.keep (by simp)
 have b2 : Blk w3 w1.heap.size 44 [.int .i64 0] := n2.blk.keep n3.keep (by simp)
 have b3 : Blk w3 w2.heap.size 3 [.int .i64 0] := n3.blk
 have k3 : Ext w w3 := (n1.keep.trans n2.keep).trans n3.keep
 repeat refine nx rfl ?_
 refine AA (AU rfl ?_)
 refine AS (lexF w3 t (hG.gv.ext k3)) rfl ?_
 rintro v w4 ⟨ta, tc, e, q, ts, rfl, k4, hT, hm⟩
 have z4 := k4.size
 have c1 := b1.keep k4 (by simp)
 have c2 := b2.keep k4 (by simp)
 have c3 := b3.keep k4 (by simp)
 refine Bp rfl (Ag rfl rfl (Ag rfl rfl (Ag rfl rfl (AC (Ae rfl ?_)))))
 refine Ao rfl rfl rfl c2 (by simp) (fun w5 p5 => ?_)
 refine Ao rfl rfl rfl (c3.keep p5.keep (by simp; omega)) (by simp) (fun w6 p6 => ?_)
 have z5 := p5.size
 have z6 := p6.size
 have d1 : Blk w6 w.heap.size 24 [.int .i64 0, AL [], .int .i64 0, .int .i64 0, .slice none 0 0] := (c1.keep p5.keep (by simp; omega)).keep p6.keep (by simp; omega)
 have d2 : Blk w6 w1.heap.size 44 [.int .i64 e] := p5.blk.keep p6.keep (by simp; omega)
 have d3 : Blk w6 w2.heap.size 3 [.int .i64 q] := p6.blk
 have k6 : Ext w w6 := ((k3.trans k4).keep p5.keep (by simp; omega)).keep p6.keep (by simp; omega)
 repeat refine nx rfl ?_
 rcases hm with ⟨hm, rfl, rfl⟩ | ⟨p, hm, he, rfl, rfl⟩
 ·obtain ⟨ht6, ht2, hwf⟩ := lexM_toks hm
  (refine AA (AG rfl (Blk.cell (by assumption) (by rfl)) ?_) <;> refine W_neqF rfl rfl (by omega) ?_)
  repeat first | refine nx rfl ?_ | refine nf rfl ?_
  refine AA (BH rfl rfl ?_)
  refine W_defer (v1 := []) (v2 := [pt w.heap.size, pt w1.heap.size, pt w2.heap.size]) (vs := []) rfl rfl ?_
  repeat refine nx rfl ?_
  refine AA (Ae rfl (AU rfl (Au rfl ?_)))
  refine AS (prefixes_ok w6) rfl ?_
  rintro v w7 ⟨mp, rfl, hmp, k7, hpre⟩
  refine AS (infixes_ok w7) rfl ?_
  rintro v w8 ⟨mi, rfl, hmi, k8, hinf⟩
  have hpl := hpre.lt
  have hil := hinf.lt
  have zk7 := k7.size
  have zk8 := k8.size
  refine Ad (by rfl) (by rfl) ?_
  refine Bq (L := [.slice ta ts.length tc, .int .i64 (t.length : Int), .map (some mp), .map (some mi)]) rfl (fun w9 n9 => ?_)
  have z9 := n9.size
  have k9 : Ext w w9 := ((k6.trans k7).trans k8).trans n9.keep
  refine AC (AQ rfl ?_)
  repeat refine nx rfl ?_
  have hT9 := ((((hT.keep p5.keep (fun b hb => by simp; omega)).keep p6.keep (fun b hb => by simp; omega)).ext k7).ext k8).ext n9.keep
  have f1 := (((d1.keep k7 (by simp)).keep k8 (by simp)).keep n9.keep (by simp))
  have f2 := (((d2.keep k7 (by simp)).keep k8 (by simp)).keep n9.keep (by simp))
  have f3 := (((d3.keep k7 (by simp)).keep k8 (by simp)).keep n9.keep (by simp))
  have hP : PSt w9 ⟨w3.heap.size, w8.heap.size, t.length, mp, mi⟩ ts := ⟨⟨ta, tc, n9.blk, hT9.mono fun b hb => by have := hb.1; have := hb.2; exact ⟨by show w3.heap.size ≤ b; omega, by show b < w8.heap.size; omega⟩⟩, (hpre.keep k8 (by simp)).keep n9.keep (by simp), hinf.keep n9.keep (by simp), ⟨by show mp < w8.heap.size; omega, hil⟩, hwf, ht2⟩
  have hW : PW w9 ⟨w3.heap.size, w8.heap.size, t.length, mp, mi⟩ ts := ⟨hP, hG.ext k9, by show 10 ≤ w8.heap.size; omega⟩
  have hpr : ∀ {r : Ans (NT.T .formula)}, Run (whole .formula) ts r → PRes .formula t (errOf t.length r) := fun {r} hr => by unfold PRes; rw [hm]; exact ⟨r, hr, rfl⟩
  have hpan : ∀ (f : Fr) (w10 : World) (l : List Tok), Run (whole .formula) ts (.error l) → Keep [w8.heap.size, w.heap.size] w9 w10 → (∃ L1, Blk w10 w.heap.size 24 L1 ∧ L1.length = 5) → f 4 = pt w.heap.size → f 5 = pt w1.heap.size → f 6 = pt w2.heap.size →
    DY Tryz.prog Tryz.f64 (fun v w' => RunAns fmlR aggV [.int .i64 0, AL [], .int .i64 0, .int .i64 0, .slice none 0 0] (PRes .formula t) w w' v) (fun _ _ => False) (.panic (errV t.length l)) f [{ target := .fn (.func 104) #[pt w.heap.size, pt w1.heap.size, pt w2.heap.size], args := #[] }] w10 := by
   rintro f w10 l hr hk ⟨L1, g1, hL1⟩ e4 e5 e6
   obtain ⟨e, p, he1, he2, he0⟩ := errV_ne (α := NT.T .formula) t.length l
   rw [he1]
   refine finD_pan_def (a := []) (c := [pt w.heap.size, pt w1.heap.size, pt w2.heap.size]) (recPan_F w10 _ _ _ L1 _ _ e (p : Int) g1 hL1 (f2.keep hk (by simp; omega)) (f3.keep hk (by simp; omega)) (by omega) (by omega) (by omega)) fun w11 h11 => ?_
   obtain ⟨k11, g1', g2', g3'⟩ := h11
   refine res_cellA e4 rfl g1'.cells (Be e5 (g2'.cell rfl) (Be e6 (g3'.cell rfl) ?_))
   have hp := hpr hr
   rw [he2] at hp
   exact ⟨[.int .i64 0, AL [], .int .i64 0, .int .i64 0, .slice none 0 0], e, p, rfl, (k9.keep hk (by simp; omega)).keep k11 (by simp; omega), .inr ⟨p, hp, he0, rfl, rfl⟩⟩
  refine AA (Ct rfl (AQ rfl ?_))
  refine CQ (v1 := []) (v2 := []) (vs := [pt w8.heap.size]) rfl (hI ⟨w3.heap.size, w8.heap.size, t.length, mp, mi⟩ ts.length w9 ts hW (Nat.le_refl _)) rfl ?_ ?_
  rotate_left
  ·rintro ch w10 ⟨k10, l, r10, rfl⟩
   repeat refine nx rfl ?_
   exact hpan _ w10 l (Run.callE r10) (k10.mono (by simp)) ⟨_, f1.keep k10 (by simp; omega), rfl⟩ rfl rfl rfl
  rintro v w10 ⟨k10, a, ts', r10, q10, c, rfl, fit⟩
  have hcl : c.length = 5 := Rp.len fmlR fit
  have hco := Rp.one fmlR fit
  have g1 := f1.keep k10 (by simp; omega)
  have g2 := f2.keep k10 (by simp; omega)
  have g3 := f3.keep k10 (by simp; omega)
  have z10 := k10.size
  refine AZ (cs := c) rfl rfl hcl hco g1 (by simp) (fun w11 p11 => ?_)
  have g1' : Blk w11 w.heap.size 24 c := by
   have := p11.blk
   rw [B4 [.int .i64 0, AL [], .int .i64 0, .int .i64 0, .slice none 0 0] c (by rw [hcl]; rfl)] at this
   exact this
  have g2' := g2.keep p11.keep (by simp; omega)
  have g3' := g3.keep p11.keep (by simp; omega)
  have fit' := Rp.keep fmlR fit p11.keep (fun b hb => by simp [fresh] at hb ⊢; omega)
  have k911 : Keep [w8.heap.size, w.heap.size] w9 w11 := (k10.mono (by simp)).trans (p11.keep.mono (Y := [w8.heap.size, w.heap.size]) (by simp)) (by simp)
  have z11 := p11.size
  have hE : w.heap.size < w8.heap.size := by omega
  obtain ⟨⟨ta', tc', hb10, hs10⟩, hq3, hq4, hq5, hq6, hq7⟩ := id q10
  have hb11 := hb10.keep p11.keep (by simp; omega)
  repeat refine nx rfl ?_
  cases ts' with
  | cons x l =>
   have hl : (x :: l).length = l.length + 1 := rfl
   (refine AA (AQ rfl (AH rfl (AD rfl (AG rfl (Blk.cell (by assumption) (by rfl)) ?_)))) <;> refine As rfl (DI rfl rfl (by omega) ?_))
   repeat refine nx rfl ?_
   refine AA (AQ rfl ?_)
   have q11 : PSt w11 ⟨w3.heap.size, w8.heap.size, t.length, mp, mi⟩ (x :: l) := ⟨⟨ta', tc', hb11, hs10.keep p11.keep (fun b hb => by have : w3.heap.size ≤ b := hb.1; simp; omega)⟩, hq3.keep p11.keep (by simp; omega), hq4.keep p11.keep (by simp; omega), hq5, hq6, hq7⟩
   refine Aa (wrong_ok ⟨w3.heap.size, w8.heap.size, t.length, mp, mi⟩ w11 (x :: l) q11) rfl (R := fun _ _ => False) ?_ ?_
   ·rintro v w2 hh; exact hh.elim
   ·rintro ch w2 ⟨rfl, rfl⟩
    repeat refine nx rfl ?_
    exact hpan _ w2 (x :: l) (Run.call r10 (Run.look (Run.fail _))) k911 ⟨_, g1', hcl⟩ rfl rfl rfl
  | nil =>
   have hl : ([] : List Tok).length = 0 := rfl
   (refine AA (AQ rfl (AH rfl (AD rfl (AG rfl (Blk.cell (by assumption) (by rfl)) ?_)))) <;> refine As rfl (DF rfl rfl (by omega) ?_))
   repeat first | refine nx rfl ?_ | refine nf rfl ?_
   refine AA (AX rfl g1' hcl ?_)
   refine AZ (cs := c) rfl rfl hcl hco g1' (by omega) (fun w12 p12 => ?_)
   have i1 : Blk w12 w.heap.size 24 c := by
    have := p12.blk
    rw [B4 c c rfl] at this
    exact this
   refine Ao rfl rfl rfl (g2'.keep p12.keep (by simp; omega)) (by simp) (fun w13 p13 => ?_)
   refine Ao rfl rfl rfl ((g3'.keep p12.keep (by simp; omega)).keep p13.keep (by simp; omega)) (by simp) (fun w14 p14 => ?_)
   have z12 := p12.size
   have z13 := p13.size
   have j1 := (i1.keep p13.keep (by simp; omega)).keep p14.keep (by simp; omega)
   have j2 : Blk w14 w1.heap.size 44 [.int .i64 0] := p13.blk.keep p14.keep (by simp; omega)
   have j3 : Blk w14 w2.heap.size 3 [.int .i64 (-1)] := p14.blk
   have k14 : Ext w w14 := (((k9.keep k911 (by simp; omega)).keep p12.keep (by simp)).keep p13.keep (by simp; omega)).keep p14.keep (by simp; omega)
   have fit14 := Rp.keep fmlR (Rp.keep fmlR (Rp.keep fmlR fit' p12.keep (fun b hb => by simp [fresh] at hb ⊢; omega)) p13.keep (fun b hb => by simp [fresh] at hb ⊢; omega)) p14.keep (fun b hb => by simp [fresh] at hb ⊢; omega)
   repeat refine nx rfl ?_
   refine finD_ret_def (a := []) (c := [pt w.heap.size, pt w1.heap.size, pt w2.heap.size]) (recRet_F _ _ _ _) fun w15 k15 => ?_
   refine res_cellA rfl hcl (j1.keep k15 (by simp)).cells (Be rfl ((j2.keep k15 (by simp)).cell rfl) (Be rfl ((j3.keep k15 (by simp)).cell rfl) ?_))
   have hp := hpr (Run.call r10 (Run.look (Run.ret _ _)))
   exact ⟨c, 0, -1, rfl, k14.trans k15, .inl ⟨a, hp, rfl, rfl, Rp.mono fmlR (Rp.ext fmlR fit14 k15) fun b hb => by simp only [fresh] at hb ⊢; omega⟩⟩
 ·(refine AA (AG rfl (Blk.cell (by assumption) (by rfl)) ?_) <;> refine W_neqT rfl rfl (by omega) ?_)
  repeat refine nx rfl ?_
  refine Bb (.read 0 (.read 1 (.read 2 (.alt 3 (.alt 4 (.alt 5 .done .stop) .stop) .stop)))) BP (by kernel_rfl) (fun wd kd ed => ⟨fun W => Cells W w.heap.size 0 [.int .i64 0, AL [], .int .i64 0, .int .i64 0, .slice none 0 0] ∧ W.cell? ⟨w1.heap.size, 0, none⟩ = some (.int .i64 e) ∧ W.cell? ⟨w2.heap.size, 0, none⟩ = some (.int .i64 (p : Int)), ?_, ?_⟩)
  ·exact ⟨(d1.keep kd (by simp)).cells, (d2.keep kd (by simp)).cell rfl, (d3.keep kd (by simp)).cell rfl⟩
  have fc0 : ∀ W : World, (Cells W w.heap.size 0 [.int .i64 0, AL [], .int .i64 0, .int .i64 0, .slice none 0 0] ∧ W.cell? ⟨w1.heap.size, 0, none⟩ = some (.int .i64 e) ∧ W.cell? ⟨w2.heap.size, 0, none⟩ = some (.int .i64 (p : Int))) → Cells W w.heap.size 0 [.int .i64 0, AL [], .int .i64 0, .int .i64 0, .slice none 0 0] := fun W h => h.1
  have fc1 : ∀ W : World, (Cells W w.heap.size 0 [.int .i64 0, AL [], .int .i64 0, .int .i64 0, .slice none 0 0] ∧ W.cell? ⟨w1.heap.size, 0, none⟩ = some (.int .i64 e) ∧ W.cell? ⟨w2.heap.size, 0, none⟩ = some (.int .i64 (p : Int))) → W.cell? ⟨w1.heap.size, 0, none⟩ = some (.int .i64 e) := fun W h => h.2.1
  have fc2 : ∀ W : World, (Cells W w.heap.size 0 [.int .i64 0, AL [], .int .i64 0, .int .i64 0, .slice none 0 0] ∧ W.cell? ⟨w1.heap.size, 0, none⟩ = some (.int .i64 e) ∧ W.cell? ⟨w2.heap.size, 0, none⟩ = some (.int .i64 (p : Int))) → W.cell? ⟨w2.heap.size, 0, none⟩ = some (.int .i64 (p : Int)) := fun W h => h.2.2
  replace d1 := d1.keep kd (by simp)
  replace d2 := d2.keep kd (by simp)
  replace d3 := d3.keep kd (by simp)
  ((apply D_R rfl rfl; (intro W hW; refine Ac rfl (by rfl) (fc0 W hW) ?_; exact Z3)) <;> refine D_R rfl rfl (fun W hW => AG rfl (fc1 W hW) Z3) (D_R rfl rfl (fun W hW => AG rfl (fc2 W hW) Z3) ?_))
  refine D_E rfl ?_
  refine AZ (cs := [.int .i64 0, AL [], .int .i64 0, .int .i64 0, .slice none 0 0]) rfl rfl rfl (BG rfl) d1 (by simp) (fun wa pa => ?_)
  have a1 : Blk wa w.heap.size 24 [.int .i64 0, AL [], .int .i64 0, .int .i64 0, .slice none 0 0] := pa.blk
  have a2 := d2.keep pa.keep (by simp; omega)
  have a3 := d3.keep pa.keep (by simp; omega)
  refine AJ ⟨_, fun _ h => h, ⟨a1.cells, a2.cell rfl, a3.cell rfl⟩, ?_⟩
  refine D_E rfl ?_
  refine Ao rfl rfl rfl a2 (by simp) (fun wb pb => ?_)
  have b1' := a1.keep pb.keep (by simp; omega)
  have b2' : Blk wb w1.heap.size 44 [.int .i64 e] := pb.blk
  have b3' := a3.keep pb.keep (by simp; omega)
  refine AJ ⟨_, fun _ h => h, ⟨b1'.cells, b2'.cell rfl, b3'.cell rfl⟩, ?_⟩
  refine D_E rfl ?_
  refine Ao rfl rfl rfl b3' (by simp) (fun wc pc => ?_)
  have c1' := b1'.keep pc.keep (by simp; omega)
  have c2' := b2'.keep pc.keep (by simp; omega)
  have c3' : Blk wc w2.heap.size 3 [.int .i64 (p : Int)] := pc.blk
  refine AJ ⟨_, fun _ h => h, ⟨c1'.cells, c2'.cell rfl, c3'.cell rfl⟩, ?_⟩
  refine A8 ?_
  repeat refine nx rfl ?_
  refine finD_ret_nil (res_cellA rfl rfl c1'.cells (Be rfl (c2'.cell rfl) (Be rfl (c3'.cell rfl) ?_)))
  refine ⟨[.int .i64 0, AL [], .int .i64 0, .int .i64 0, .slice none 0 0], e, p, rfl, (((k6.trans kd).keep pa.keep (by simp)).keep pb.keep (by simp; omega)).keep pc.keep (by simp; omega), .inr ⟨p, ?_, he, rfl, rfl⟩⟩
  unfold PRes
  rw [hm]
theorem run_S (w : World) (t : List UInt8) (hG : GK w) (hI : ∀ E N, ItemR spcR aggV E N 57 (body .spec)) : Fn Tryz.prog 56 [AL t, .func (.func 57) #[] #[]] w (fun v w' => RunAns spcR aggV [.slice none 0 0, .slice none 0 0] (PRes .spec t) w w' v) := by
 have hgs := hG.gv.size
 refine fn_of_wcD Tryz.func56 rfl Tryz.ntmps56 (Nat.le_of_ble_eq_true rfl) (by kernel_rfl) ?_
 repeat refine nx rfl ?_
 refine AA ?_
 refine Ay (fun w1 n1 => ?_)
 refine Ay (fun w2 n2 => ?_)
 refine Ay (fun w3 n3 => ?_)
 have z1 := n1.size
 have z2 := n2.size
 have z3 := n3.size
 have b1 : Blk w3 w.heap.size 28 [.slice none 0 0, .slice none 0 0] := (n1.blk.keep n2.keep (by simp)).keep n3.keep (by simp)
 have b2 : Blk w3 w1.heap.size 44 [.int .i64 0] := n2.blk.keep n3.keep (by simp)
 have b3 : Blk w3 w2.heap.size 3 [.int .i64 0] := n3.blk
 have k3 : Ext w w3 := (n1.keep.trans n2.keep).trans n3.keep
 repeat refine nx rfl ?_
 refine AA (AU rfl ?_)
 refine AS (lexF w3 t (hG.gv.ext k3)) rfl ?_
 rintro v w4 ⟨ta, tc, e, q, ts, rfl, k4, hT, hm⟩
 have z4 := k4.size
 have c1 := b1.keep k4 (by simp)
 have c2 := b2.keep k4 (by simp)
 have c3 := b3.keep k4 (by simp)
 refine Bp rfl (Ag rfl rfl (Ag rfl rfl (Ag rfl rfl (AC (Ae rfl ?_)))))
 refine Ao rfl rfl rfl c2 (by simp) (fun w5 p5 => ?_)
 refine Ao rfl rfl rfl (c3.keep p5.keep (by simp; omega)) (by simp) (fun w6 p6 => ?_)
 have z5 := p5.size
 have z6 := p6.size
 have d1 : Blk w6 w.heap.size 28 [.slice none 0 0, .slice none 0 0] := (c1.keep p5.keep (by simp; omega)).keep p6.keep (by simp; omega)
 have d2 : Blk w6 w1.heap.size 44 [.int .i64 e] := p5.blk.keep p6.keep (by simp; omega)
 have d3 : Blk w6 w2.heap.size 3 [.int .i64 q] := p6.blk
 have k6 : Ext w w6 := ((k3.trans k4).keep p5.keep (by simp; omega)).keep p6.keep (by simp; omega)
 repeat refine nx rfl ?_
 rcases hm with ⟨hm, rfl, rfl⟩ | ⟨p, hm, he, rfl, rfl⟩
 ·obtain ⟨ht6, ht2, hwf⟩ := lexM_toks hm
  (refine AA (AG rfl (Blk.cell (by assumption) (by rfl)) ?_) <;> refine W_neqF rfl rfl (by omega) ?_)
  repeat first | refine nx rfl ?_ | refine nf rfl ?_
  refine AA (BH rfl rfl ?_)
  refine W_defer (v1 := []) (v2 := [pt w.heap.size, pt w1.heap.size, pt w2.heap.size]) (vs := []) rfl rfl ?_
  repeat refine nx rfl ?_
  refine AA (Ae rfl (AU rfl (Au rfl ?_)))
  refine AS (prefixes_ok w6) rfl ?_
  rintro v w7 ⟨mp, rfl, hmp, k7, hpre⟩
  refine AS (infixes_ok w7) rfl ?_
  rintro v w8 ⟨mi, rfl, hmi, k8, hinf⟩
  have hpl := hpre.lt
  have hil := hinf.lt
  have zk7 := k7.size
  have zk8 := k8.size
  refine Ad (by rfl) (by rfl) ?_
  refine Bq (L := [.slice ta ts.length tc, .int .i64 (t.length : Int), .map (some mp), .map (some mi)]) rfl (fun w9 n9 => ?_)
  have z9 := n9.size
  have k9 : Ext w w9 := ((k6.trans k7).trans k8).trans n9.keep
  refine AC (AQ rfl ?_)
  repeat refine nx rfl ?_
  have hT9 := ((((hT.keep p5.keep (fun b hb => by simp; omega)).keep p6.keep (fun b hb => by simp; omega)).ext k7).ext k8).ext n9.keep
  have f1 := (((d1.keep k7 (by simp)).keep k8 (by simp)).keep n9.keep (by simp))
  have f2 := (((d2.keep k7 (by simp)).keep k8 (by simp)).keep n9.keep (by simp))
  have f3 := (((d3.keep k7 (by simp)).keep k8 (by simp)).keep n9.keep (by simp))
  have hP : PSt w9 ⟨w3.heap.size, w8.heap.size, t.length, mp, mi⟩ ts := ⟨⟨ta, tc, n9.blk, hT9.mono fun b hb => by have := hb.1; have := hb.2; exact ⟨by show w3.heap.size ≤ b; omega, by show b < w8.heap.size; omega⟩⟩, (hpre.keep k8 (by simp)).keep n9.keep (by simp), hinf.keep n9.keep (by simp), ⟨by show mp < w8.heap.size; omega, hil⟩, hwf, ht2⟩
  have hW : PW w9 ⟨w3.heap.size, w8.heap.size, t.length, mp, mi⟩ ts := ⟨hP, hG.ext k9, by show 10 ≤ w8.heap.size; omega⟩
  have hpr : ∀ {r : Ans (NT.T .spec)}, Run (whole .spec) ts r → PRes .spec t (errOf t.length r) := fun {r} hr => by unfold PRes; rw [hm]; exact ⟨r, hr, rfl⟩
  have hpan : ∀ (f : Fr) (w10 : World) (l : List Tok), Run (whole .spec) ts (.error l) → Keep [w8.heap.size, w.heap.size] w9 w10 → (∃ L1, Blk w10 w.heap.size 28 L1 ∧ L1.length = 2) → f 4 = pt w.heap.size → f 5 = pt w1.heap.size → f 6 = pt w2.heap.size →
    DY Tryz.prog Tryz.f56 (fun v w' => RunAns spcR aggV [.slice none 0 0, .slice none 0 0] (PRes .spec t) w w' v) (fun _ _ => False) (.panic (errV t.length l)) f [{ target := .fn (.func 88) #[pt w.heap.size, pt w1.heap.size, pt w2.heap.size], args := #[] }] w10 := by
   rintro f w10 l hr hk ⟨L1, g1, hL1⟩ e4 e5 e6
   obtain ⟨e, p, he1, he2, he0⟩ := errV_ne (α := NT.T .spec) t.length l
   rw [he1]
   refine finD_pan_def (a := []) (c := [pt w.heap.size, pt w1.heap.size, pt w2.heap.size]) (recPan_S w10 _ _ _ L1 _ _ e (p : Int) g1 hL1 (f2.keep hk (by simp; omega)) (f3.keep hk (by simp; omega)) (by omega) (by omega) (by omega)) fun w11 h11 => ?_
   obtain ⟨k11, g1', g2', g3'⟩ := h11
   refine res_cellA e4 rfl g1'.cells (Be e5 (g2'.cell rfl) (Be e6 (g3'.cell rfl) ?_))
   have hp := hpr hr
   rw [he2] at hp
   exact ⟨[.slice none 0 0, .slice none 0 0], e, p, rfl, (k9.keep hk (by simp; omega)).keep k11 (by simp; omega), .inr ⟨p, hp, he0, rfl, rfl⟩⟩
  refine AA (Ct rfl (AQ rfl ?_))
  refine CQ (v1 := []) (v2 := []) (vs := [pt w8.heap.size]) rfl (hI ⟨w3.heap.size, w8.heap.size, t.length, mp, mi⟩ ts.length w9 ts hW (Nat.le_refl _)) rfl ?_ ?_
  rotate_left
  ·rintro ch w10 ⟨k10, l, r10, rfl⟩
   repeat refine nx rfl ?_
   exact hpan _ w10 l (Run.callE r10) (k10.mono (by simp)) ⟨_, f1.keep k10 (by simp; omega), rfl⟩ rfl rfl rfl
  rintro v w10 ⟨k10, a, ts', r10, q10, c, rfl, fit⟩
  have hcl : c.length = 2 := Rp.len spcR fit
  have hco := Rp.one spcR fit
  have g1 := f1.keep k10 (by simp; omega)
  have g2 := f2.keep k10 (by simp; omega)
  have g3 := f3.keep k10 (by simp; omega)
  have z10 := k10.size
  refine AZ (cs := c) rfl rfl hcl hco g1 (by simp) (fun w11 p11 => ?_)
  have g1' : Blk w11 w.heap.size 28 c := by
   have := p11.blk
   rw [B4 [.slice none 0 0, .slice none 0 0] c (by rw [hcl]; rfl)] at this
   exact this
  have g2' := g2.keep p11.keep (by simp; omega)
  have g3' := g3.keep p11.keep (by simp; omega)
  have fit' := Rp.keep spcR fit p11.keep (fun b hb => by simp [fresh] at hb ⊢; omega)
  have k911 : Keep [w8.heap.size, w.heap.size] w9 w11 := (k10.mono (by simp)).trans (p11.keep.mono (Y := [w8.heap.size, w.heap.size]) (by simp)) (by simp)
  have z11 := p11.size
  have hE : w.heap.size < w8.heap.size := by omega
  obtain ⟨⟨ta', tc', hb10, hs10⟩, hq3, hq4, hq5, hq6, hq7⟩ := id q10
  have hb11 := hb10.keep p11.keep (by simp; omega)
  repeat refine nx rfl ?_
  cases ts' with
  | cons x l =>
   have hl : (x :: l).length = l.length + 1 := rfl
   (refine AA (AQ rfl (AH rfl (AD rfl (AG rfl (Blk.cell (by assumption) (by rfl)) ?_)))) <;> refine As rfl (DI rfl rfl (by omega) ?_))
   repeat refine nx rfl ?_
   refine AA (AQ rfl ?_)
   have q11 : PSt w11 ⟨w3.heap.size, w8.heap.size, t.length, mp, mi⟩ (x :: l) := ⟨⟨ta', tc', hb11, hs10.keep p11.keep (fun b hb => by have : w3.heap.size ≤ b := hb.1; simp; omega)⟩, hq3.keep p11.keep (by simp; omega), hq4.keep p11.keep (by simp; omega), hq5, hq6, hq7⟩
   refine Aa (wrong_ok ⟨w3.heap.size, w8.heap.size, t.length, mp, mi⟩ w11 (x :: l) q11) rfl (R := fun _ _ => False) ?_ ?_
   ·rintro v w2 hh; exact hh.elim
   ·rintro ch w2 ⟨rfl, rfl⟩
    repeat refine nx rfl ?_
    exact hpan _ w2 (x :: l) (Run.call r10 (Run.look (Run.fail _))) k911 ⟨_, g1', hcl⟩ rfl rfl rfl
  | nil =>
   have hl : ([] : List Tok).length = 0 := rfl
   (refine AA (AQ rfl (AH rfl (AD rfl (AG rfl (Blk.cell (by assumption) (by rfl)) ?_)))) <;> refine As rfl (DF rfl rfl (by omega) ?_))
   repeat first | refine nx rfl ?_ | refine nf rfl ?_
   refine AA (AX rfl g1' hcl ?_)
   refine AZ (cs := c) rfl rfl hcl hco g1' (by omega) (fun w12 p12 => ?_)
   have i1 : Blk w12 w.heap.size 28 c := by
    have := p12.blk
    rw [B4 c c rfl] at this
    exact this
   refine Ao rfl rfl rfl (g2'.keep p12.keep (by simp; omega)) (by simp) (fun w13 p13 => ?_)
   refine Ao rfl rfl rfl ((g3'.keep p12.keep (by simp; omega)).keep p13.keep (by simp; omega)) (by simp) (fun w14 p14 => ?_)
   have z12 := p12.size
   have z13 := p13.size
   have j1 := (i1.keep p13.keep (by simp; omega)).keep p14.keep (by simp; omega)
   have j2 : Blk w14 w1.heap.size 44 [.int .i64 0] := p13.blk.keep p14.keep (by simp; omega)
   have j3 : Blk w14 w2.heap.size 3 [.int .i64 (-1)] := p14.blk
   have k14 : Ext w w14 := (((k9.keep k911 (by simp; omega)).keep p12.keep (by simp)).keep p13.keep (by simp; omega)).keep p14.keep (by simp; omega)
   have fit14 := Rp.keep spcR (Rp.keep spcR (Rp.keep spcR fit' p12.keep (fun b hb => by simp [fresh] at hb ⊢; omega)) p13.keep (fun b hb => by simp [fresh] at hb ⊢; omega)) p14.keep (fun b hb => by simp [fresh] at hb ⊢; omega)
   repeat refine nx rfl ?_
   refine finD_ret_def (a := []) (c := [pt w.heap.size, pt w1.heap.size, pt w2.heap.size]) (recRet_S _ _ _ _) fun w15 k15 => ?_
   refine res_cellA rfl hcl (j1.keep k15 (by simp)).cells (Be rfl ((j2.keep k15 (by simp)).cell rfl) (Be rfl ((j3.keep k15 (by simp)).cell rfl) ?_))
   have hp := hpr (Run.call r10 (Run.look (Run.ret _ _)))
   exact ⟨c, 0, -1, rfl, k14.trans k15, .inl ⟨a, hp, rfl, rfl, Rp.mono spcR (Rp.ext spcR fit14 k15) fun b hb => by simp only [fresh] at hb ⊢; omega⟩⟩
 ·(refine AA (AG rfl (Blk.cell (by assumption) (by rfl)) ?_) <;> refine W_neqT rfl rfl (by omega) ?_)
  repeat refine nx rfl ?_
  refine Bb (.read 0 (.read 1 (.read 2 (.alt 3 (.alt 4 (.alt 5 .done .stop) .stop) .stop)))) BP (by kernel_rfl) (fun wd kd ed => ⟨fun W => Cells W w.heap.size 0 [.slice none 0 0, .slice none 0 0] ∧ W.cell? ⟨w1.heap.size, 0, none⟩ = some (.int .i64 e) ∧ W.cell? ⟨w2.heap.size, 0, none⟩ = some (.int .i64 (p : Int)), ?_, ?_⟩)
  ·exact ⟨(d1.keep kd (by simp)).cells, (d2.keep kd (by simp)).cell rfl, (d3.keep kd (by simp)).cell rfl⟩
  have fc0 : ∀ W : World, (Cells W w.heap.size 0 [.slice none 0 0, .slice none 0 0] ∧ W.cell? ⟨w1.heap.size, 0, none⟩ = some (.int .i64 e) ∧ W.cell? ⟨w2.heap.size, 0, none⟩ = some (.int .i64 (p : Int))) → Cells W w.heap.size 0 [.slice none 0 0, .slice none 0 0] := fun W h => h.1
  have fc1 : ∀ W : World, (Cells W w.heap.size 0 [.slice none 0 0, .slice none 0 0] ∧ W.cell? ⟨w1.heap.size, 0, none⟩ = some (.int .i64 e) ∧ W.cell? ⟨w2.heap.size, 0, none⟩ = some (.int .i64 (p : Int))) → W.cell? ⟨w1.heap.size, 0, none⟩ = some (.int .i64 e) := fun W h => h.2.1
  have fc2 : ∀ W : World, (Cells W w.heap.size 0 [.slice none 0 0, .slice none 0 0] ∧ W.cell? ⟨w1.heap.size, 0, none⟩ = some (.int .i64 e) ∧ W.cell? ⟨w2.heap.size, 0, none⟩ = some (.int .i64 (p : Int))) → W.cell? ⟨w2.heap.size, 0, none⟩ = some (.int .i64 (p : Int)) := fun W h => h.2.2
  replace d1 := d1.keep kd (by simp)
  replace d2 := d2.keep kd (by simp)
  replace d3 := d3.keep kd (by simp)
  ((apply D_R rfl rfl; (intro W hW; refine Ac rfl (by rfl) (fc0 W hW) ?_; exact Z3)) <;> refine D_R rfl rfl (fun W hW => AG rfl (fc1 W hW) Z3) (D_R rfl rfl (fun W hW => AG rfl (fc2 W hW) Z3) ?_))
  refine D_E rfl ?_
  refine AZ (cs := [.slice none 0 0, .slice none 0 0]) rfl rfl rfl (BG rfl) d1 (by simp) (fun wa pa => ?_)
  have a1 : Blk wa w.heap.size 28 [.slice none 0 0, .slice none 0 0] := pa.blk
  have a2 := d2.keep pa.keep (by simp; omega)
  have a3 := d3.keep pa.keep (by simp; omega)
  refine AJ ⟨_, fun _ h => h, ⟨a1.cells, a2.cell rfl, a3.cell rfl⟩, ?_⟩
  refine D_E rfl ?_
  refine Ao rfl rfl rfl a2 (by simp) (fun wb pb => ?_)
  have b1' := a1.keep pb.keep (by simp; omega)
  have b2' : Blk wb w1.heap.size 44 [.int .i64 e] := pb.blk
  have b3' := a3.keep pb.keep (by simp; omega)
  refine AJ ⟨_, fun _ h => h, ⟨b1'.cells, b2'.cell rfl, b3'.cell rfl⟩, ?_⟩
  refine D_E rfl ?_
  refine Ao rfl rfl rfl b3' (by simp) (fun wc pc => ?_)
  have c1' := b1'.keep pc.keep (by simp; omega)
  have c2' := b2'.keep pc.keep (by simp; omega)
  have c3' : Blk wc w2.heap.size 3 [.int .i64 (p : Int)] := pc.blk
  refine AJ ⟨_, fun _ h => h, ⟨c1'.cells, c2'.cell rfl, c3'.cell rfl⟩, ?_⟩
  refine A8 ?_
  repeat refine nx rfl ?_
  refine finD_ret_nil (res_cellA rfl rfl c1'.cells (Be rfl (c2'.cell rfl) (Be rfl (c3'.cell rfl) ?_)))
  refine ⟨[.slice none 0 0, .slice none 0 0], e, p, rfl, (((k6.trans kd).keep pa.keep (by simp)).keep pb.keep (by simp; omega)).keep pc.keep (by simp; omega), .inr ⟨p, ?_, he, rfl, rfl⟩⟩
  unfold PRes
  rw [hm]
theorem item_fml (E : Env) (N : Nat) : ItemR fmlR aggV E N 65 (body .formula) := by
 intro w ts h hN
 refine FnP.mono ((formulas_ok E N).2.2.2 w ts h hN) ?_ fun _ _ h => h
 rintro v w' ⟨k, a, ts', r, q, f⟩
 obtain ⟨c, rfl, hc, _⟩ := f.cells
 exact ⟨k, a, ts', r, q, c, rfl, hc, f⟩
theorem parse_F (w : World) (t : List UInt8) (hG : GK w) : Fn Tryz.prog 30 [AL t] w (fun v w' => RunAns fmlR aggV [.int .i64 0, AL [], .int .i64 0, .int .i64 0, .slice none 0 0] (PRes .formula t) w w' v) := by
 refine Ab Tryz.func30 rfl Tryz.ntmps30 (Nat.le_of_ble_eq_true rfl) (by kernel_rfl) ?_
 repeat refine nx rfl ?_
 refine AA ?_
 refine Ay (fun w1 n1 => ?_)
 have b1 : Blk w1 w.heap.size 24 [.int .i64 0, AL [], .int .i64 0, .int .i64 0, .slice none 0 0] := n1.blk
 have z1 := n1.size
 refine AC (AF rfl (AC (AF rfl ?_)))
 repeat refine nx rfl ?_
 refine AA (AU rfl ?_)
 refine AS (run_F w1 t (hG.ext n1.keep) item_fml) rfl ?_
 rintro v w2 ⟨c, e, q, rfl, k2, hr⟩
 have hc : c.length = 5 ∧ oneC c := by
  rcases hr with ⟨a, _, _, _, fit⟩ | ⟨p, _, _, _, rfl⟩
  ·exact ⟨Rp.len fmlR fit, Rp.one fmlR fit⟩
  ·exact ⟨rfl, BG rfl⟩
 have b2 := b1.keep k2 (by simp)
 refine Ag rfl rfl (Ag rfl rfl (Ag rfl rfl ?_))
 refine AZ (cs := c) rfl rfl hc.1 hc.2 b2 (by simp) (fun w3 p3 => ?_)
 have b3 : Blk w3 w.heap.size 24 c := by
  have := p3.blk
  rw [B4 [.int .i64 0, AL [], .int .i64 0, .int .i64 0, .slice none 0 0] c (by rw [hc.1]; rfl)] at this
  exact this
 refine AC (AF rfl (AC (AF rfl ?_)))
 repeat refine nx rfl ?_
 refine fin_retA2 rfl rfl hc.1 b3.cells ⟨c, e, q, rfl, (n1.keep.trans k2).keep p3.keep (by simp), ?_⟩
 rcases hr with ⟨a, h1, h2, h3, fit⟩ | h
 ·exact .inl ⟨a, h1, h2, h3, Rp.mono fmlR (Rp.keep fmlR fit p3.keep (fun b hb => by simp [fresh] at hb ⊢; omega)) (fun b hb => by simp only [fresh] at hb ⊢; omega)⟩
 ·exact .inr h
theorem parse_S (w : World) (t : List UInt8) (hG : GK w) : Fn Tryz.prog 23 [AL t] w (fun v w' => RunAns spcR aggV [.slice none 0 0, .slice none 0 0] (PRes .spec t) w w' v) := by
 refine Ab Tryz.func23 rfl Tryz.ntmps23 (Nat.le_of_ble_eq_true rfl) (by kernel_rfl) ?_
 repeat refine nx rfl ?_
 refine AA ?_
 refine Ay (fun w1 n1 => ?_)
 have b1 : Blk w1 w.heap.size 28 [.slice none 0 0, .slice none 0 0] := n1.blk
 have z1 := n1.size
 refine AC (AF rfl (AC (AF rfl ?_)))
 repeat refine nx rfl ?_
 refine AA (AU rfl ?_)
 refine AS (run_S w1 t (hG.ext n1.keep) spec_ok) rfl ?_
 rintro v w2 ⟨c, e, q, rfl, k2, hr⟩
 have hc : c.length = 2 ∧ oneC c := by
  rcases hr with ⟨a, _, _, _, fit⟩ | ⟨p, _, _, _, rfl⟩
  ·exact ⟨Rp.len spcR fit, Rp.one spcR fit⟩
  ·exact ⟨rfl, BG rfl⟩
 have b2 := b1.keep k2 (by simp)
 refine Ag rfl rfl (Ag rfl rfl (Ag rfl rfl ?_))
 refine AZ (cs := c) rfl rfl hc.1 hc.2 b2 (by simp) (fun w3 p3 => ?_)
 have b3 : Blk w3 w.heap.size 28 c := by
  have := p3.blk
  rw [B4 [.slice none 0 0, .slice none 0 0] c (by rw [hc.1]; rfl)] at this
  exact this
 refine AC (AF rfl (AC (AF rfl ?_)))
 repeat refine nx rfl ?_
 refine fin_retA2 rfl rfl hc.1 b3.cells ⟨c, e, q, rfl, (n1.keep.trans k2).keep p3.keep (by simp), ?_⟩
 rcases hr with ⟨a, h1, h2, h3, fit⟩ | h
 ·exact .inl ⟨a, h1, h2, h3, Rp.mono spcR (Rp.keep spcR fit p3.keep (fun b hb => by simp [fresh] at hb ⊢; omega)) (fun b hb => by simp only [fresh] at hb ⊢; omega)⟩
 ·exact .inr h
end Go.Proofs.YtfcgdbmoncnibaaGreatDoor
namespace Go.Proofs.YtfcgdbmoncnibaaGreatDoor
open Go.RowKit
set_option linter.unusedVariables false
variable {mk : Prop} [MK mk]
abbrev Out (α : Type) := Except (Int × Nat) α
def Out.errno {α : Type} : Out α → Int
 | .ok _ => 0
 | .error e => e.1
def Out.loc {α : Type} : Out α → Int
 | .ok _ => -1
 | .error e => (e.2 : Int)
def Out.val {α : Type} (z : α) : Out α → α
 | .ok a => a
 | .error _ => z
def zeroS : Spc := ⟨[], []⟩
theorem zeroS_fits (ok : Nat → Prop) (w : World) : spcR.fits ok w [.slice none 0 0, .slice none 0 0] zeroS :=
 ⟨_, _, rfl, ⟨none, 0, [], rfl, ⟨none, 0, rfl, by simp [zeroS], by omega, fun _ => rfl, .inl rfl⟩, RsAt.nil⟩, ⟨none, 0, [], rfl, ⟨none, 0, rfl, by simp [zeroS], by omega, fun _ => rfl, .inl rfl⟩, RsAt.nil⟩⟩
theorem RunAns.out {α : Type} {R : Rp α} {z : List Value} {za : α} {P : Out α → Prop} {w w' : World} {v : Value} (h : RunAns R aggV z P w w' v) (hz : R.fits (fresh w) w' z za) :
  ∃ (o : Out α) (c : List Value), P o ∧ v = .tuple #[.agg c.toArray, .int .i64 o.errno, .int .i64 o.loc] ∧ Ext w w' ∧ R.fits (fresh w) w' c (o.val za) := by
 obtain ⟨c, e, q, rfl, k, h | h⟩ := h
 ·obtain ⟨a, h1, rfl, rfl, h4⟩ := h
  exact ⟨.ok a, c, h1, rfl, k, h4⟩
 ·obtain ⟨p, h1, h2, rfl, rfl⟩ := h
  exact ⟨.error (e, p), c, h1, rfl, k, hz⟩
def parseD (nt : NT) (t : List UInt8) (n : Nat) : Option (Out nt.T) := match DK t with
 | .error e => some (.error e)
 | .ok ts => (evG (evN n) (whole nt) ts).map (errOf t.length)
theorem PRes.of {nt : NT} {t : List UInt8} {n : Nat} {r : Out nt.T} (h : parseD nt t n = some r) : PRes nt t r := by
 unfold parseD at h
 unfold PRes
 cases hm : DK t with
 | error e => rw [hm] at h; exact (Option.some.inj h).symm
 | ok ts =>
  rw [hm] at h
  obtain ⟨a, h1, h2⟩ := Option.map_eq_some_iff.1 h
  exact ⟨a, ⟨n, h1⟩, h2.symm⟩
theorem madeSgn2 : (madeCells (Value.agg #[AL [], .bool false, .int .i64 0]).cells (2 * 3)).toList = [AL [], .bool false, .int .i64 0, AL [], .bool false, .int .i64 0] := by kernel_rfl
theorem FV.five {w : World} {v : Value} {f : Fml} (h : FV w v f) : ∃ c0 c1 c2 c3 c4, v = .agg [c0, c1, c2, c3, c4].toArray ∧ oneC [c0, c1, c2, c3, c4] := by
 obtain ⟨cs, rfl, hcs, hone⟩ := FAt.cells h
 obtain ⟨c0, c1, c2, c3, c4, rfl⟩ := Ch hcs
 exact ⟨_, _, _, _, _, rfl, hone⟩
theorem FV.fresh {w w' : World} {e : TypeId} {L : List (List Value)} {l : List Fml} (n : New w w' e L.flatten) (h : FsAt A0 w L l) (hl : l.length ≤ 1000000) : Sl A0 w' (.slice (some ⟨w.heap.size, 0, none⟩) l.length l.length) l.length L.flatten ∧ FsAt A0 w' L l := FsAt.fresh n h trivial hl
end Go.Proofs.YtfcgdbmoncnibaaGreatDoor
namespace Go.Proofs.YtfcgdbmoncnibaaGreatDoor
instance weakMK : MK False := ⟨trivial⟩
end Go.Proofs.YtfcgdbmoncnibaaGreatDoor
namespace Go.Proofs.YtfcgdbmoncnibaaGreatDoor
open Go.RowKit
set_option linter.unusedVariables false
theorem strongMK : MK True := ⟨trivial⟩
theorem parseU_S (w : World) (t : List UInt8) (hG : GK w) : Fn Tryz.prog 23 [AL t] w fun v w' => ∃ (o : Out (NT.T .spec)) (c : List Value), PRes .spec t o ∧ v = .tuple #[.agg c.toArray, .int .i64 o.errno, .int .i64 o.loc] ∧ Ext w w' ∧ Rp.fits spcR (fresh w) w' c (o.val zeroS) ∧ ∀ b, w.heap.size ≤ b → Unm w' b := by
 refine (@parse_S True strongMK w t hG).mono ?_
 intro v w' hh
 obtain ⟨o, c, p, e, k, f⟩ := @RunAns.out True strongMK _ _ _ zeroS _ _ _ _ hh (zeroS_fits _ _)
 exact ⟨o, c, p, e, @Keep.weak False weakMK strongMK _ _ _ k, f, fun b hb => @Keep.fresh strongMK _ _ _ k _ hb⟩
end Go.Proofs.YtfcgdbmoncnibaaGreatDoor
namespace Go.Proofs.YtfcgdbmoncnibaaGreatDoor
open Go.RowKit
set_option linter.unusedVariables false
variable {mk : Prop} [MK mk]
def fcC (f : Fml) (av : Value) : List Value := [.int .i64 f.op, AL f.name, .int .i64 f.val, .int .i64 f.bound, av]
def PF (ok : Nat → Prop) (w : World) (b o : Nat) (f : Fml) : Prop := ok b ∧ ∃ d : List Value, d.length = 5 ∧ Cells w b o d ∧ FAt ok w (.agg d.toArray) f
theorem PF.keep {ok : Nat → Prop} {X : List Nat} {w w' : World} {b o : Nat} {f : Fml} (h : PF ok w b o f) (k : Keep X w w') (hX : ∀ b, ok b → b ∉ X) : PF ok w' b o f := by
 obtain ⟨hb, d, hd, hc, hf⟩ := h
 exact ⟨hb, d, hd, hc.keep k (hX b hb), hf.keep k hX⟩
theorem PF.lt {ok : Nat → Prop} {w : World} {b o : Nat} {f : Fml} (h : PF ok w b o f) : PF (fun b => ok b ∧ b < w.heap.size) w b o f := by
 obtain ⟨hb, d, hd, hc, hf⟩ := h
 obtain ⟨d0, d1, d2, d3, d4, rfl⟩ := Ch hd
 exact ⟨⟨hb, World.block_lt_of_cell? w _ (hc 0 _ rfl)⟩, _, rfl, hc, hf.lt⟩
theorem PF.mono {ok ok' : Nat → Prop} {w : World} {b o : Nat} {f : Fml} (h : PF ok w b o f) (hk : ∀ b, ok b → ok' b) : PF ok' w b o f := by
 obtain ⟨hb, d, hd, hc, hf⟩ := h
 exact ⟨hk b hb, d, hd, hc, hf.mono hk⟩
theorem PF.form {ok : Nat → Prop} {w : World} {b o : Nat} {f : Fml} (h : PF ok w b o f) : ok b ∧ ∃ a c L, Cells w b o (fcC f (.slice a f.args.length c)) ∧ Sl ok w (.slice a f.args.length c) f.args.length L.flatten ∧ FsAt ok w L f.args := by
 obtain ⟨hb, d, hd, hc, hf⟩ := h
 obtain ⟨av, e, L, hS, h1, h2, h3⟩ := hf.form
 obtain ⟨a, c, rfl, _⟩ := id hS
 have e := congrArg Array.toList (Value.agg.inj e)
 have e : d = fcC f (.slice a f.args.length c) := e
 subst e
 exact ⟨hb, a, c, L, hc, hS, h1, h2, h3⟩
end Go.Proofs.YtfcgdbmoncnibaaGreatDoor
