/- The table of forms; a signal found by its name; the formula true. How many nodes a formula has. The nodes of a formula, one after the other: the iterator walked. The nodes of a formula: the loop around, and the number of nodes. The printer's laws: the example. The parser's plain law: where formulas stop, formulas in parentheses, operators between and ahead. The printer's plain law: texts that read as tokens, from the right, without limits. The printer's plain law: the text of a formula and its tokens. Conditions: none. -/
import Derived.Test.YtfcgdbmoncnibaaGreatDoorZG7

namespace Go.Proofs.YtfcgdbmoncnibaaGreatDoor
open Go.RowKit
set_option linter.unusedVariables false
variable {mk : Prop} [MK mk]
structure Form where
 least : Int
 most : Int
 val : Int
 bound : Int
 named : Bool
 past : Bool
 future : Bool
 loose : Bool
def formsL : List Form := [⟨0, 0, 0, 0, false, false, false, false⟩, ⟨0, 0, 0, 0, false, false, false, true⟩, ⟨0, 0, 0, 0, false, false, false, true⟩, ⟨0, 0, 3, 0, true, false, false, true⟩, ⟨1, 1, 0, 0, false, false, false, true⟩,
 ⟨2, 1099511627776, 0, 0, false, false, false, true⟩, ⟨2, 1099511627776, 0, 0, false, false, false, true⟩, ⟨2, 2, 0, 0, false, false, false, false⟩, ⟨1, 1, 0, 0, false, false, true, true⟩, ⟨2, 2, 0, 0, false, false, true, true⟩,
 ⟨2, 2, 0, 0, false, false, true, true⟩, ⟨1, 1, 0, 0, false, false, true, false⟩, ⟨1, 1, 0, 0, false, false, true, false⟩, ⟨1, 1, 0, 9, false, false, true, false⟩, ⟨1, 1, 0, 9, false, false, true, false⟩,
 ⟨1, 1, 1, 0, false, true, false, true⟩, ⟨2, 2, 1, 0, false, true, false, true⟩, ⟨2, 2, 1, 0, false, true, false, true⟩, ⟨1, 1, 0, 0, false, true, false, false⟩, ⟨1, 1, 0, 0, false, true, false, false⟩]
def CK (x : Form) : List Value := [.int .i64 x.least, .int .i64 x.most, .int .i64 x.val, .int .i64 x.bound, .bool x.named, .bool x.past, .bool x.future, .bool x.loose]
def formC : List Value := formsL.flatMap CK
def GF (w : World) : Prop := Cells w 2 0 formC
theorem GF.keep {X : List Nat} {w w' : World} (h : GF w) (k : Keep X w w') (hX : ∀ x ∈ X, 10 ≤ x) : GF w' := Cells.keep h k (fun hx => by have := hX _ hx; revert this; decide)
theorem GF.ext {w w' : World} (h : GF w) (k : Ext w w') : GF w' := h.keep k fun x hx => by cases hx
def zeroForm : Form := ⟨0, 0, 0, 0, false, false, false, false⟩
def isOpB (n : Int) : Bool := decide (1 ≤ n) && decide (n < 20)
def DE (n : Int) : Form := if isOpB n then formsL.getD n.toNat zeroForm else zeroForm
theorem formC_at : ∀ (l : List Form) (k i : Nat) (x : Form) (u : Value), l[k]? = some x → (CK x)[i]? = some u → (l.flatMap CK)[k * 8 + i]? = some u
 | [], _, _, _, _, h, _ => by simp at h
 | y :: l, 0, i, x, u, h, hu => by
  obtain rfl : y = x := by simpa using h
  rw [List.flatMap_cons, Nat.zero_mul, Nat.zero_add, List.getElem?_append_left (List.getElem?_eq_some_iff.1 hu).1, hu]
 | y :: l, k + 1, i, x, u, h, hu => by
  have := formC_at l k i x u (by simpa using h) hu
  rw [List.flatMap_cons, List.getElem?_append_right (by simp [CK]; omega), show (k + 1) * 8 + i - (CK y).length = k * 8 + i by simp [CK]; omega, this]
theorem formC_one (x : Form) : oneC (CK x) := by
 intro u hu
 simp [CK] at hu
 rcases hu with rfl | rfl | rfl | rfl | rfl | rfl | rfl | rfl <;> rfl
theorem formOf_ok (w : World) (n : Int) (hG : GF w) : Fn Tryz.prog 118 [.int .i64 n] w fun v w' => v = .tuple #[.agg (CK (DE n)).toArray, .bool (isOpB n)] ∧ Ext w w' := by
 refine Ab Tryz.func118 rfl Tryz.ntmps118 (Nat.le_of_ble_eq_true rfl) (by kernel_rfl) ?_
 repeat refine nx rfl ?_
 (refine AA ?_; refine Ay (fun w1 n1 => ?_))
 have b1 : Blk w1 w.heap.size 175 (CK zeroForm) := n1.blk
 have k1 := n1.keep
 refine AC (AB rfl ?_)
 repeat refine nx rfl ?_
 by_cases hn : 1 ≤ n ∧ n < 20
 ·have hb : isOpB n = true := by simp [isOpB, hn]
  obtain ⟨k, rfl⟩ : ∃ k : Nat, n = (k : Int) := ⟨n.toNat, by omega⟩
  obtain ⟨x, hx⟩ : ∃ x, formsL[k]? = some x := ⟨_, List.getElem?_eq_getElem (by show k < 20; omega)⟩
  have hm : DE (k : Int) = x := by unfold DE; rw [if_pos hb]; simp [List.getD_eq_getElem?_getD, hx]
  have hcl : Cells w1 2 (0 + (k : Int).toNat * 8) (CK x) := by
   intro i u hu
   have := (hG.ext k1) (k * 8 + i) u (formC_at formsL k i x u hx hu)
   rw [Nat.add_assoc]; exact this
  rw [hb, hm]
  refine AA (AF rfl (BA rfl rfl (by omega) (AB rfl (AE rfl (AF rfl (AE rfl (W_geqF rfl rfl (by omega) (AP rfl (AB rfl ?_)))))))))
  repeat first | refine nx rfl ?_ | refine nf rfl ?_
  refine AA (AF rfl ?_)
  refine W_indexArr rfl rfl (by omega) (by omega) ?_
  refine Ac (L := CK x) rfl rfl hcl ?_
  refine AZ (cs := CK x) rfl rfl rfl (formC_one x) b1 (by simp [CK]) (fun w2 p2 => ?_)
  refine AC (AB rfl ?_)
  repeat refine nx rfl ?_
  exact CJ (L := CK x) rfl rfl rfl p2.blk.cells ⟨rfl, k1.keep p2.keep (by simp)⟩
 ·have hb : isOpB n = false := by simp [isOpB]; omega
  have hm : DE n = zeroForm := by unfold DE; rw [if_neg (by simp [hb])]
  rw [hb, hm]
  (refine AA (AF rfl ?_) <;> (refine W_lss rfl rfl (fun hc => ?_) (fun hc => ?_) <;> try omega) <;> refine AB rfl ?_ <;> (first | refine AI rfl ?_ | (refine AE rfl ?_; refine AF rfl ?_)) <;> (first | refine AI rfl ?_ | (refine AE rfl ?_; refine W_geqT rfl rfl (by omega) ?_)) <;> ((first | refine AK rfl ?_ | refine AP rfl ?_); refine AB rfl ?_) <;> refine AJ ?_)
  all_goals
   repeat refine nx rfl ?_
   refine AA (Ad (by rfl) (by rfl) ?_)
   refine AZ (cs := CK zeroForm) rfl rfl rfl (formC_one _) b1 (by simp [CK]) (fun w2 p2 => ?_)
   refine AC (AB rfl ?_)
   repeat refine nx rfl ?_
   exact CJ (L := CK zeroForm) rfl rfl rfl p2.blk.cells ⟨rfl, k1.keep p2.keep (by simp)⟩
theorem rtrue_ok (w : World) : Fn Tryz.prog 68 [] w fun v w' => Ext w w' ∧ FV w' v ⟨1, [], 0, 0, []⟩ := by
 refine Ab Tryz.func68 rfl Tryz.ntmps68 (Nat.le_of_ble_eq_true rfl) (by kernel_rfl) ?_
 repeat refine nx rfl ?_
 refine AA ?_
 refine Ay (fun w1 n1 => ?_)
 have b1 : Blk w1 w.heap.size 24 Cn := n1.blk
 repeat refine nx rfl ?_
 refine AA (Ad (by rfl) (by rfl) ?_)
 refine AZ (cs := [.int .i64 1, AL [], .int .i64 0, .int .i64 0, .slice none 0 0]) rfl rfl rfl (BG rfl) b1 (by simp [Cn]) (fun w2 p2 => ?_)
 have b2 : Blk w2 w.heap.size 24 [.int .i64 1, AL [], .int .i64 0, .int .i64 0, .slice none 0 0] := p2.blk
 repeat refine nx rfl ?_
 exact A6 rfl rfl rfl b2.cells ⟨n1.keep.keep p2.keep (by simp), FAt.leaf _ _ _ _ _ _⟩
def findM (l : List Sgn) (s : List UInt8) : Int := match l.findIdx? (fun x => decide (x.name = s)) with
 | some i => (i : Int)
 | none => -1
theorem sigFind_ok (w : World) (v : Value) (l : List Sgn) (s : List UInt8) (h : SlAt sgnR A0 w v l) : Fn Tryz.prog 40 [v, AL s] w fun v w' => v = .int .i64 (findM l s) ∧ w' = w := by
 obtain ⟨a, c, L, rfl, hS, hF⟩ := h
 have hlm : l.length ≤ 9223372036854775807 := by obtain ⟨_, _, hv, g1, g2, _⟩ := id hS; cases hv; omega
 refine Ab Tryz.func40 rfl Tryz.ntmps40 (Nat.le_of_ble_eq_true rfl) (by kernel_rfl) ?_
 repeat refine nx rfl ?_
 refine AA (AC (AF rfl ?_))
 repeat refine nx rfl ?_
 refine AA (Ae rfl (As rfl (AF rfl ?_)))
 repeat refine nx rfl ?_
 refine BJ (α := Nat) (fun k => [(0, .slice a l.length c), (1, AL s), (7, .int .i64 (l.length : Int)), (8, .int .i64 (k : Int))]) (fun k W => k ≤ l.length ∧ W = w ∧ ∀ j y, j < k → l[j]? = some y → y.name ≠ s) (fun k => l.length - k) 0 ⟨rfl, rfl, rfl, rfl, trivial⟩ ⟨by omega, rfl, fun j y hj => by omega⟩ ?_
 rintro k w3 f3 ⟨hk, rfl, hj⟩
 repeat refine nx rfl ?_
 by_cases hlt : k < l.length
 ·obtain ⟨y, hy⟩ : ∃ y, l[k]? = some y := ⟨_, List.getElem?_eq_getElem hlt⟩
  obtain ⟨cy, hcy⟩ : ∃ cy, L[k]? = some cy := ⟨_, List.getElem?_eq_getElem (by rw [hF.1]; exact hlt)⟩
  obtain rfl : cy = Cb y := hF.2 k cy y hcy hy
  obtain ⟨b, o, rfl, _, hcell⟩ := hS.recs hF (sz := 3) rfl hcy hlt
  have c0 : w3.cell? ⟨b, o + k * 3 + 0, none⟩ = some (AL y.name) := hcell 0 _ rfl
  refine AA (BC rfl rfl (by omega) ?_)
  repeat refine nx rfl ?_
  refine AA (AF rfl (AC (AF rfl ?_)))
  repeat refine nx rfl ?_
  refine AA (Ae rfl (AF rfl ?_))
  refine CD (k := k) rfl rfl rfl hlt ?_
  by_cases hyx : y.name = s
  ·(refine AD rfl (AG rfl (by assumption) ?_) <;> refine AU rfl ?_ <;> refine CM rfl rfl (fun hc => ?_) (fun hc => ?_) <;> refine AJ ?_)
   case refine_2 => exact absurd hyx (by assumption)
   repeat refine nx rfl ?_
   refine AA (AF rfl (AC (AF rfl ?_)))
   repeat refine nx rfl ?_
   refine AO rfl ⟨?_, rfl⟩
   have : l.findIdx? (fun x => decide (x.name = s)) = some k := by
    rw [List.findIdx?_eq_some_iff_getElem]
    obtain ⟨h1, h2⟩ := List.getElem?_eq_some_iff.1 hy
    refine ⟨hlt, by simp [h2, hyx], fun j hjk => ?_⟩
    have := hj j l[j] hjk (List.getElem?_eq_getElem (by omega))
    simpa using this
   unfold findM
   rw [this]; rfl
  ·(refine AD rfl (AG rfl (by assumption) ?_) <;> refine AU rfl ?_ <;> refine CM rfl rfl (fun hc => ?_) (fun hc => ?_) <;> refine AJ ?_)
   case refine_1 => exact absurd (by assumption) hyx
   repeat first | refine nx rfl ?_ | refine nf rfl ?_
   (refine AA (BK rfl rfl (by first | exact Am (by omega) (by omega) | exact At (by omega) (by omega) | exact Al (by omega) (by omega)) ?_) <;> refine AF rfl ?_)
   repeat refine nx rfl ?_
   refine ⟨k + 1, ⟨rfl, ⟨rfl, rfl, rfl, ?_, trivial⟩, ⟨by omega, rfl, fun j z hjk hz => ?_⟩⟩, by omega⟩
   ·show Value.int .i64 ((k : Int) + 1) = _
    rw [Int.natCast_add]; rfl
   ·rcases Nat.lt_or_ge j k with h | h
    ·exact hj j z h hz
    ·obtain rfl : j = k := by omega
     rw [hy] at hz; cases hz; exact hyx
 ·obtain rfl : k = l.length := by omega
  refine AA (BA rfl rfl (by omega) ?_)
  repeat first | refine nx rfl ?_ | refine nf rfl ?_
  refine AA (AC (AF rfl ?_))
  repeat refine nx rfl ?_
  refine AO rfl ⟨?_, rfl⟩
  have : l.findIdx? (fun x => decide (x.name = s)) = none := by
   rw [List.findIdx?_eq_none_iff]
   intro x hx
   obtain ⟨i, hi⟩ := List.getElem?_of_mem hx
   simpa using hj i x (List.getElem?_eq_some_iff.1 hi).1 hi
  unfold findM
  rw [this]; rfl
end Go.Proofs.YtfcgdbmoncnibaaGreatDoor
namespace Go.Proofs.YtfcgdbmoncnibaaGreatDoor
set_option linter.unusedVariables false
mutual
def szF : Fml → Nat
 | .mk _ _ _ _ args => szL args + 1
def szL : List Fml → Nat
 | [] => 0
 | a :: l => szF a + szL l
end
theorem szF_eq (f : Fml) : szF f = szL f.args + 1 := by cases f; simp [szF, Fml.args]
theorem szF_pos (f : Fml) : 1 ≤ szF f := by rw [szF_eq]; omega
theorem szL_len : ∀ l : List Fml, l.length ≤ szL l
 | [] => by simp
 | a :: l => by have := szF_pos a; have := szL_len l; simp only [szL, List.length_cons]; omega
theorem szL_mem : ∀ {l : List Fml} {a : Fml}, a ∈ l → szF a ≤ szL l
 | c :: l, a, h => by
  simp only [szL]
  rcases List.mem_cons.1 h with rfl | h
  ·omega
  ·have := szL_mem h; omega
end Go.Proofs.YtfcgdbmoncnibaaGreatDoor
namespace Go.Proofs.YtfcgdbmoncnibaaGreatDoor
open Go.RowKit
set_option linter.unusedVariables false
variable {mk : Prop} [MK mk]
abbrev Nd := Fml × Bool
mutual
def preF (i : Bool) : Fml → List Nd
 | .mk op nm v b args => (.mk op nm v b args, i) :: DN (i || (DE op).past) args
def DN (i : Bool) : List Fml → List Nd
 | [] => []
 | f :: l => preF i f ++ DN i l
end
mutual
def dpF : Fml → Nat
 | .mk _ _ _ _ args => dpL args + 1
def dpL : List Fml → Nat
 | [] => 0
 | f :: l => max (dpF f) (dpL l)
end
theorem preF_eq (i : Bool) (f : Fml) : preF i f = (f, i) :: DN (i || (DE f.op).past) f.args := by cases f; simp [preF, Fml.args, Fml.op]
theorem dpF_eq (f : Fml) : dpF f = dpL f.args + 1 := by cases f; simp [dpF, Fml.args]
theorem dpL_mem : ∀ {l : List Fml} {a : Fml}, a ∈ l → dpF a ≤ dpL l
 | c :: l, a, h => by
  simp only [dpL]
  rcases List.mem_cons.1 h with rfl | h
  ·omega
  ·have := dpL_mem h; omega
theorem preL_app (i : Bool) : ∀ l m : List Fml, DN i (l ++ m) = DN i l ++ DN i m
 | [], m => rfl
 | f :: l, m => by simp [DN, preL_app i l m]
theorem preL_take (i : Bool) {l : List Fml} {k : Nat} {x : Fml} (h : l[k]? = some x) : DN i (l.take (k + 1)) = DN i (l.take k) ++ preF i x := by
 rw [List.take_add_one, h, Option.toList_some, preL_app]; simp [DN]
structure NodesR (yv : Value) (X : List Nat) (B : Nat) (P : List Nd) (J D : List Nd → World → Prop) : Prop where
 fn : ∃ y, yv = .func (.yield y) #[] #[]
 glob : ∀ x ∈ X, 10 ≤ x
 keep : ∀ {L : List Nd} {W W' : World} {Y : List Nat}, J L W → Keep Y W W' → (∀ y ∈ Y, B ≤ y) → J L W'
 step : ∀ {L : List Nd} {W : World} {b o : Nat} {f : Fml} {i : Bool}, J L W → PF (fun b => b ∉ X ∧ b < B) W b o f → L ++ [(f, i)] <+: P → YldP Tryz.prog yv [.pointer (some ⟨b, o, none⟩), .bool i] W (fun v W' => Keep X W W' ∧ ((v = .bool true ∧ J (L ++ [(f, i)]) W') ∨ (v = .bool false ∧ D (L ++ [(f, i)]) W'))) fun _ _ => False
theorem PF.opc {ok : Nat → Prop} {w : World} {b o : Nat} {f : Fml} (h : PF ok w b o f) : w.cell? ⟨b, o + 0, none⟩ = some (.int .i64 f.op) := by
 obtain ⟨_, a, c, L, hc, _⟩ := h.form
 exact hc 0 _ rfl
theorem PF.arg {ok : Nat → Prop} {w : World} {b o : Nat} {f : Fml} (h : PF ok w b o f) : ∃ a c, f.args.length ≤ 9223372036854775807 ∧ w.cell? ⟨b, o + 4, none⟩ = some (.slice a f.args.length c) ∧ ∀ (k : Nat) (x : Fml), f.args[k]? = some x → ∃ b' o', a = some ⟨b', o', none⟩ ∧ PF ok w b' (o' + k * 5) x := by
 obtain ⟨_, a, c, L, hc, hS, h1, h2, h3⟩ := h.form
 refine ⟨a, c, by obtain ⟨_, _, hv, g1, g2, _⟩ := id hS; cases hv; omega, hc 4 _ rfl, fun k x hx => ?_⟩
 have hlt : k < f.args.length := (List.getElem?_eq_some_iff.1 hx).1
 obtain ⟨d, hd⟩ : ∃ d, L[k]? = some d := ⟨_, List.getElem?_eq_getElem (by omega)⟩
 obtain ⟨b', o', rfl, hb, hcx⟩ := hS.fml h2 hd hlt
 exact ⟨b', o', rfl, hb, d, h2 d (List.mem_of_getElem? hd), hcx, h3 k d x hd hx⟩
theorem NodesR.ext {yv : Value} {X : List Nat} {B : Nat} {P : List Nd} {J D : List Nd → World → Prop} (H : NodesR yv X B P J D) {L : List Nd} {W W' : World} (h : J L W) (k : Ext W W') : J L W' := H.keep h k fun _ h => by cases h
theorem visit_ok {yv : Value} {X : List Nat} {B : Nat} {P : List Nd} {J D : List Nd → World → Prop} (H : NodesR yv X B P J D) (c3 c4 c5 : Nat) (h4 : c4 ∉ X) (h5 : c5 ∉ X) : ∀ (n : Nat) (w : World) (b o : Nat) (f : Fml) (i : Bool) (d : Nat) (L : List Nd), dpF f ≤ n → d + n ≤ 5000 → PF (fun b => b ∉ X ∧ b < B) w b o f → GF w →
  Blk w c4 169 [yv] → Blk w c5 173 [.func (.func 117) #[] #[pt c3, pt c4, pt c5]] → J L w → L ++ preF i f <+: P →
  Fn Tryz.prog 117 [.pointer (some ⟨b, o, none⟩), .bool i, .int .i64 d, pt c3, pt c4, pt c5] w fun v w' => Keep X w w' ∧ ((v = .bool true ∧ J (L ++ preF i f) w') ∨ (v = .bool false ∧ ∃ M, M <+: preF i f ∧ M ≠ [] ∧ D (L ++ M) w')) := by
 intro n
 induction n with
 | zero => intro w b o f i d L hn; rw [dpF_eq] at hn; omega
 | succ n ih =>
 intro w b o f i d L hn hd hf hG b4 b5 hJ hP
 rw [dpF_eq] at hn
 have hdl : d < 5000 := by omega
 obtain ⟨y, rfl⟩ := H.fn
 refine Ab Tryz.func117 rfl Tryz.ntmps117 (Nat.le_of_ble_eq_true rfl) (by kernel_rfl) ?_
 repeat refine nx rfl ?_
 refine AA (AC (AB rfl ?_))
 repeat refine nx rfl ?_
 refine AA (AF rfl (AN rfl rfl (by omega) ?_))
 repeat first | refine nx rfl ?_ | refine nf rfl ?_
 (refine AA (AG rfl (Blk.cell (by assumption) (by rfl)) ?_) <;> refine AQ rfl (AB rfl ?_))
 refine W_yield rfl rfl (H.step hJ hf (((List.prefix_append_right_inj L).2 (by rw [preF_eq]; exact ⟨_, rfl⟩)).trans hP)) ?_
 rintro _ w1 ⟨k1, hr⟩
 rcases hr with ⟨rfl, hJ1⟩ | ⟨rfl, hD⟩
 case inr =>
  refine A9 rfl ?_
  repeat refine nx rfl ?_
  refine AA (AC (AB rfl ?_))
  repeat refine nx rfl ?_
  exact AO rfl ⟨k1, .inr ⟨rfl, [(f, i)], by rw [preF_eq]; exact ⟨_, rfl⟩, by simp, hD⟩⟩
 have hf1 := hf.keep k1 (fun _ h => h.1)
 have hG1 := hG.keep k1 H.glob
 have b41 := b4.keep k1 h4
 have b51 := b5.keep k1 h5
 refine A9 rfl ?_
 repeat first | refine nx rfl ?_ | refine nf rfl ?_
 have hop := hf1.opc
 refine AA (AQ rfl (AH rfl (AD rfl (AG rfl (by assumption) ?_))))
 refine AS (formOf_ok w1 f.op hG1) rfl ?_
 rintro _ w2 ⟨rfl, k2⟩
 refine Bp rfl (Ag rfl rfl (Ag rfl rfl ?_))
 refine BE (cs := CK (DE f.op)) rfl rfl (by rfl) (formC_one _) (fun w3 n3 => ?_)
 refine AC (AB rfl ?_)
 repeat refine nx rfl ?_
 have k3 := k2.trans n3.keep
 have b3 := n3.blk
 have hf3 := hf1.keep k3 (fun _ _ => by simp)
 have hG3 := hG1.ext k3
 have b43 := b41.keep k3 (by simp)
 have b53 := b51.keep k3 (by simp)
 have k13 : Keep X w w3 := k1.ext k3
 have hJ3 := H.ext hJ1 k3
 have hpast : w3.cell? ⟨w2.heap.size, 0 + 5, none⟩ = some (.bool (DE f.op).past) := b3.cell rfl
 obtain ⟨a3, cc3, hal, hargs3, _⟩ := hf3.arg
 cases i with
 | true =>
  refine AA (AB rfl (AB rfl (AI rfl (AI rfl (AK rfl (AB rfl (AC (AB rfl ?_))))))))
  repeat refine nx rfl ?_
  (refine AA (AQ rfl (AH rfl (AD rfl (AG rfl (by assumption) ?_)))) <;> refine As rfl (AF rfl ?_))
  repeat refine nx rfl ?_
  refine BJ (α := Nat) (fun k => [(0, .pointer (some ⟨b, o, none⟩)), (1, .bool true), (2, .int .i64 (d : Int)), (5, pt c5), (43, .int .i64 (f.args.length : Int)), (44, .int .i64 (k : Int))]) (fun k W => k ≤ f.args.length ∧ Keep X w W ∧ Ext w3 w3 ∧ J (L ++ ((f, true) :: DN true (f.args.take k))) W ∧ GF W ∧ PF (fun b => b ∉ X ∧ b < B) W b o f ∧ Blk W c4 169 [.func (.yield y) #[] #[]] ∧ Blk W c5 173 [.func (.func 117) #[] #[pt c3, pt c4, pt c5]]) (fun k => f.args.length - k) 0 ⟨rfl, rfl, rfl, rfl, rfl, rfl, trivial⟩ ⟨by omega, k13, Ext.refl _, by simpa [DN] using hJ3, hG3, hf3, b43, b53⟩ ?_
  rintro k W fr ⟨hk, kW, _, hJW, hGW, hfW, b4W, b5W⟩
  repeat refine nx rfl ?_
  by_cases hlt : k < f.args.length
  ·refine AA (BC rfl rfl (by omega) ?_)
   repeat refine nx rfl ?_
   refine AA (AF rfl (AC (AF rfl ?_)))
   repeat refine nx rfl ?_
   obtain ⟨x, hx⟩ : ∃ x, f.args[k]? = some x := ⟨_, List.getElem?_eq_getElem hlt⟩
   obtain ⟨aa, cc, _, hargs, hel⟩ := hfW.arg
   obtain ⟨b', o', rfl, hfx⟩ := hel k x hx
   have hfa : f.args = f.args.take k ++ x :: f.args.drop (k + 1) := by
    have := List.take_append_drop k f.args
    rw [List.drop_eq_getElem_cons hlt, (List.getElem?_eq_some_iff.1 hx).2] at this
    exact this.symm
   have hpe : DN true f.args = DN true (f.args.take k) ++ (preF true x ++ DN true (f.args.drop (k + 1))) := by
    conv => lhs; rw [hfa, preL_app]
    simp [DN]
   have hPx : (L ++ ((f, true) :: DN true (f.args.take k))) ++ preF true x <+: P := by
    refine List.IsPrefix.trans ?_ hP
    rw [preF_eq true f, List.append_assoc, List.prefix_append_right_inj]
    show _ <+: (f, true) :: DN true f.args
    rw [hpe, List.cons_append, List.prefix_cons_inj, List.prefix_append_right_inj]
    exact List.prefix_append _ _
   have hdx : dpF x ≤ n := by have := dpL_mem (List.mem_of_getElem? hx); omega
   refine Bb (.read 0 (.read 1 (.read 2 (.read 3 (.read 4 (.read 5 (.read 6 (.read 7 (.read 8 (.read 9 (.alt 10 (.read 11 .done) .stop))))))))))) BP (by kernel_rfl) (fun wd kd ed => ⟨Keep X wd, ?_, ?_⟩)
   ·exact Keep.refl _ _
   have ca : ∀ V, Keep X wd V → V.cell? ⟨c5, 0, none⟩ = some (.func (.func 117) #[] #[pt c3, pt c4, pt c5]) := fun V e => ((b5W.keep kd (by simp)).keep e h5).cell rfl
   have cb : ∀ V, Keep X wd V → V.cell? ⟨b, o + 4, none⟩ = some (.slice (some ⟨b', o', none⟩) f.args.length cc) := fun V e => e.cell (kd.cell hargs (by simp)) hfW.1.1
   (refine D_R rfl rfl (fun W hW => AG rfl (ca W hW) Z3) (D_R rfl rfl (fun W hW => AQ rfl Z3) (D_R rfl rfl (fun W hW => AH rfl Z3) (D_R rfl rfl (fun W hW => AD rfl Z3) (D_R rfl rfl (fun W hW => AG rfl (cb W hW) Z3) (D_R rfl rfl (fun W hW => AF rfl Z3) (D_R rfl rfl (fun W hW => CD rfl rfl rfl (by omega) Z3) (D_R rfl rfl (fun W hW => AB rfl Z3) (D_R rfl rfl (fun W hW => AF rfl Z3) ?_)))))))) <;> (apply D_R rfl rfl; (intro W hW; refine BK rfl rfl (by first | exact Am (by omega) (by omega) | exact At (by omega) (by omega) | exact Al (by omega) (by omega)) ?_; exact Z3)))
   refine D_E rfl ?_
   refine B5 (v1 := []) (v2 := [pt c3, pt c4, pt c5]) (vs := [.pointer (some ⟨b', o' + k * 5, none⟩), .bool true, .int .i64 ((d : Int) + 1)]) rfl (ih wd b' (o' + k * 5) x true (d + 1) _ hdx (by omega) (hfx.keep kd (fun _ _ => by simp)) (hGW.ext kd) (b4W.keep kd (by simp)) (b5W.keep kd (by simp)) (H.ext hJW kd) hPx) rfl ?_
   rintro _ w4 ⟨k4, hr⟩
   refine AJ ⟨Keep X wd, fun _ e => e, k4, ?_⟩
   have kW4 : Keep X w w4 := (kW.ext kd).trans k4 (fun _ hx _ => hx)
   rcases hr with ⟨rfl, hJ4⟩ | ⟨rfl, M, hM1, hM2, hD⟩
   ·refine D_R rfl rfl (fun W hW => A9 rfl Z3) (A8 ?_)
    repeat first | refine nx rfl ?_ | refine nf rfl ?_
    (refine AA (BK rfl rfl (by first | exact Am (by omega) (by omega) | exact At (by omega) (by omega) | exact Al (by omega) (by omega)) ?_) <;> refine AF rfl ?_)
    repeat refine nx rfl ?_
    refine ⟨k + 1, ⟨rfl, ⟨rfl, rfl, rfl, rfl, rfl, ?_, trivial⟩, ⟨by omega, kW4, Ext.refl _, ?_, (hGW.ext kd).keep k4 H.glob, (hfW.keep kd (fun _ _ => by simp)).keep k4 (fun _ h => h.1), (b4W.keep kd (by simp)).keep k4 h4, (b5W.keep kd (by simp)).keep k4 h5⟩⟩, by omega⟩
    ·show Value.int .i64 ((k : Int) + 1) = _
     rw [Int.natCast_add]; rfl
    ·rw [preL_take _ hx]; simpa using hJ4
   ·refine D_R rfl rfl (fun W hW => A9 rfl Z3) (A8 ?_)
    repeat refine nx rfl ?_
    refine AA (AC (AB rfl ?_))
    repeat refine nx rfl ?_
    refine AO rfl ⟨kW4, .inr ⟨rfl, (f, true) :: DN true (f.args.take k) ++ M, ?_, by simp, by simpa using hD⟩⟩
    rw [preF_eq]
    show _ <+: (f, true) :: DN true f.args
    rw [hpe, List.cons_append, List.prefix_cons_inj, List.prefix_append_right_inj]
    exact hM1.trans (List.prefix_append _ _)
  ·refine AA (BA rfl rfl (by omega) ?_)
   repeat first | refine nx rfl ?_ | refine nf rfl ?_
   refine AA (AC (AB rfl ?_))
   repeat refine nx rfl ?_
   rw [List.take_of_length_le (by omega)] at hJW
   refine AO rfl ⟨kW, .inl ⟨rfl, by rw [preF_eq]; exact hJW⟩⟩
 | false =>
  (refine AA (AB rfl (AB rfl (AE rfl (AD rfl (AE rfl (AG rfl (Blk.cell (by assumption) (by rfl)) ?_)))))) <;> refine AP rfl (AB rfl (AC (AB rfl ?_))))
  repeat refine nx rfl ?_
  (refine AA (AQ rfl (AH rfl (AD rfl (AG rfl (by assumption) ?_)))) <;> refine As rfl (AF rfl ?_))
  repeat refine nx rfl ?_
  refine BJ (α := Nat) (fun k => [(0, .pointer (some ⟨b, o, none⟩)), (1, .bool (DE f.op).past), (2, .int .i64 (d : Int)), (5, pt c5), (43, .int .i64 (f.args.length : Int)), (44, .int .i64 (k : Int))]) (fun k W => k ≤ f.args.length ∧ Keep X w W ∧ Ext w3 w3 ∧ J (L ++ ((f, false) :: DN (DE f.op).past (f.args.take k))) W ∧ GF W ∧ PF (fun b => b ∉ X ∧ b < B) W b o f ∧ Blk W c4 169 [.func (.yield y) #[] #[]] ∧ Blk W c5 173 [.func (.func 117) #[] #[pt c3, pt c4, pt c5]]) (fun k => f.args.length - k) 0 ⟨rfl, rfl, rfl, rfl, rfl, rfl, trivial⟩ ⟨by omega, k13, Ext.refl _, by simpa [DN] using hJ3, hG3, hf3, b43, b53⟩ ?_
  rintro k W fr ⟨hk, kW, _, hJW, hGW, hfW, b4W, b5W⟩
  repeat refine nx rfl ?_
  by_cases hlt : k < f.args.length
  ·refine AA (BC rfl rfl (by omega) ?_)
   repeat refine nx rfl ?_
   refine AA (AF rfl (AC (AF rfl ?_)))
   repeat refine nx rfl ?_
   obtain ⟨x, hx⟩ : ∃ x, f.args[k]? = some x := ⟨_, List.getElem?_eq_getElem hlt⟩
   obtain ⟨aa, cc, _, hargs, hel⟩ := hfW.arg
   obtain ⟨b', o', rfl, hfx⟩ := hel k x hx
   have hfa : f.args = f.args.take k ++ x :: f.args.drop (k + 1) := by
    have := List.take_append_drop k f.args
    rw [List.drop_eq_getElem_cons hlt, (List.getElem?_eq_some_iff.1 hx).2] at this
    exact this.symm
   have hpe : DN (DE f.op).past f.args = DN (DE f.op).past (f.args.take k) ++ (preF (DE f.op).past x ++ DN (DE f.op).past (f.args.drop (k + 1))) := by
    conv => lhs; rw [hfa, preL_app]
    simp [DN]
   have hPx : (L ++ ((f, false) :: DN (DE f.op).past (f.args.take k))) ++ preF (DE f.op).past x <+: P := by
    refine List.IsPrefix.trans ?_ hP
    rw [preF_eq false f, List.append_assoc, List.prefix_append_right_inj]
    show _ <+: (f, false) :: DN (DE f.op).past f.args
    rw [hpe, List.cons_append, List.prefix_cons_inj, List.prefix_append_right_inj]
    exact List.prefix_append _ _
   have hdx : dpF x ≤ n := by have := dpL_mem (List.mem_of_getElem? hx); omega
   refine Bb (.read 0 (.read 1 (.read 2 (.read 3 (.read 4 (.read 5 (.read 6 (.read 7 (.read 8 (.read 9 (.alt 10 (.read 11 .done) .stop))))))))))) BP (by kernel_rfl) (fun wd kd ed => ⟨Keep X wd, ?_, ?_⟩)
   ·exact Keep.refl _ _
   have ca : ∀ V, Keep X wd V → V.cell? ⟨c5, 0, none⟩ = some (.func (.func 117) #[] #[pt c3, pt c4, pt c5]) := fun V e => ((b5W.keep kd (by simp)).keep e h5).cell rfl
   have cb : ∀ V, Keep X wd V → V.cell? ⟨b, o + 4, none⟩ = some (.slice (some ⟨b', o', none⟩) f.args.length cc) := fun V e => e.cell (kd.cell hargs (by simp)) hfW.1.1
   (refine D_R rfl rfl (fun W hW => AG rfl (ca W hW) Z3) (D_R rfl rfl (fun W hW => AQ rfl Z3) (D_R rfl rfl (fun W hW => AH rfl Z3) (D_R rfl rfl (fun W hW => AD rfl Z3) (D_R rfl rfl (fun W hW => AG rfl (cb W hW) Z3) (D_R rfl rfl (fun W hW => AF rfl Z3) (D_R rfl rfl (fun W hW => CD rfl rfl rfl (by omega) Z3) (D_R rfl rfl (fun W hW => AB rfl Z3) (D_R rfl rfl (fun W hW => AF rfl Z3) ?_)))))))) <;> (apply D_R rfl rfl; (intro W hW; refine BK rfl rfl (by first | exact Am (by omega) (by omega) | exact At (by omega) (by omega) | exact Al (by omega) (by omega)) ?_; exact Z3)))
   refine D_E rfl ?_
   refine B5 (v1 := []) (v2 := [pt c3, pt c4, pt c5]) (vs := [.pointer (some ⟨b', o' + k * 5, none⟩), .bool (DE f.op).past, .int .i64 ((d : Int) + 1)]) rfl (ih wd b' (o' + k * 5) x (DE f.op).past (d + 1) _ hdx (by omega) (hfx.keep kd (fun _ _ => by simp)) (hGW.ext kd) (b4W.keep kd (by simp)) (b5W.keep kd (by simp)) (H.ext hJW kd) hPx) rfl ?_
   rintro _ w4 ⟨k4, hr⟩
   refine AJ ⟨Keep X wd, fun _ e => e, k4, ?_⟩
   have kW4 : Keep X w w4 := (kW.ext kd).trans k4 (fun _ hx _ => hx)
   rcases hr with ⟨rfl, hJ4⟩ | ⟨rfl, M, hM1, hM2, hD⟩
   ·refine D_R rfl rfl (fun W hW => A9 rfl Z3) (A8 ?_)
    repeat first | refine nx rfl ?_ | refine nf rfl ?_
    (refine AA (BK rfl rfl (by first | exact Am (by omega) (by omega) | exact At (by omega) (by omega) | exact Al (by omega) (by omega)) ?_) <;> refine AF rfl ?_)
    repeat refine nx rfl ?_
    refine ⟨k + 1, ⟨rfl, ⟨rfl, rfl, rfl, rfl, rfl, ?_, trivial⟩, ⟨by omega, kW4, Ext.refl _, ?_, (hGW.ext kd).keep k4 H.glob, (hfW.keep kd (fun _ _ => by simp)).keep k4 (fun _ h => h.1), (b4W.keep kd (by simp)).keep k4 h4, (b5W.keep kd (by simp)).keep k4 h5⟩⟩, by omega⟩
    ·show Value.int .i64 ((k : Int) + 1) = _
     rw [Int.natCast_add]; rfl
    ·rw [preL_take _ hx]; simpa using hJ4
   ·refine D_R rfl rfl (fun W hW => A9 rfl Z3) (A8 ?_)
    repeat refine nx rfl ?_
    refine AA (AC (AB rfl ?_))
    repeat refine nx rfl ?_
    refine AO rfl ⟨kW4, .inr ⟨rfl, (f, false) :: DN (DE f.op).past (f.args.take k) ++ M, ?_, by simp, by simpa using hD⟩⟩
    rw [preF_eq]
    show _ <+: (f, false) :: DN (DE f.op).past f.args
    rw [hpe, List.cons_append, List.prefix_cons_inj, List.prefix_append_right_inj]
    exact hM1.trans (List.prefix_append _ _)
  ·refine AA (BA rfl rfl (by omega) ?_)
   repeat first | refine nx rfl ?_ | refine nf rfl ?_
   refine AA (AC (AB rfl ?_))
   repeat refine nx rfl ?_
   rw [List.take_of_length_le (by omega)] at hJW
   refine AO rfl ⟨kW, .inl ⟨rfl, by rw [preF_eq]; exact hJW⟩⟩
end Go.Proofs.YtfcgdbmoncnibaaGreatDoor
namespace Go.Proofs.YtfcgdbmoncnibaaGreatDoor
open Go.RowKit
set_option linter.unusedVariables false
variable {mk : Prop} [MK mk]
theorem madePut : (madeCells (Value.agg #[.pointer none, .bool false]).cells (1 * 2)).toList = [.pointer none, .bool false] := by kernel_rfl
theorem nodesIt_ok {yv : Value} {X : List Nat} {J D : List Nd → World → Prop} (w : World) (cf b o : Nat) (f : Fml) (H : NodesR yv X w.heap.size (preF false f) J D) (hcf : Blk w cf 76 [.pointer (some ⟨b, o, none⟩)]) (hf : PF (fun b => b ∉ X ∧ b < w.heap.size) w b o f) (hG : GF w) (hN : 10 ≤ w.heap.size) (hd : dpF f ≤ 5000) (hJ : J [] w) (hX : ∀ x ∈ X, x < w.heap.size) :
  Fn Tryz.prog 116 [yv, pt cf] w fun _ w' => Keep X w w' ∧ (J (preF false f) w' ∨ ∃ M, M <+: preF false f ∧ M ≠ [] ∧ D M w') := by
 have hX' : ∀ {c : Nat}, w.heap.size ≤ c → c ∉ X := fun h hx => by have := hX _ hx; omega
 have hy := H.fn
 obtain ⟨y, rfl⟩ := hy
 refine Ab Tryz.func116 rfl Tryz.ntmps116 (Nat.le_of_ble_eq_true rfl) (by kernel_rfl) ?_
 repeat refine nx rfl ?_
 (refine AA ?_; refine Bq (L := [.func (.yield y) #[] #[]]) rfl (fun w1 n1 => ?_))
 repeat refine nx rfl ?_
 have c1 : w1.cell? ⟨cf, 0, none⟩ = some (.pointer (some ⟨b, o, none⟩)) := (hcf.keep n1.keep (by simp)).cell rfl
 (refine AA (AG rfl (by assumption) ?_) <;> refine Ad (by rfl) (by rfl) ?_)
 refine AV (out := [.pointer (some ⟨b, o, none⟩), .bool false]) rfl (by omega) (by rw [madePut]; rfl) (fun w2 n2 => ?_)
 refine Ay (fun w3 n3 => ?_)
 refine Ao (v := .slice (some ⟨w1.heap.size, 0, none⟩) 1 1) rfl rfl rfl n3.blk (by simp) (fun w4 p4 => ?_)
 repeat refine nx rfl ?_
 (refine AA ?_; refine Ay (fun w5 n5 => ?_))
 repeat refine nx rfl ?_
 refine AA (BH rfl rfl ?_)
 refine Ao (v := .func (.func 117) #[] #[pt w2.heap.size, pt w.heap.size, pt w4.heap.size]) rfl rfl rfl n5.blk (by simp) (fun w6 p6 => ?_)
 repeat refine nx rfl ?_
 have z1 := n1.size
 have z2 := n2.size
 have z3 := n3.size
 have z4 := p4.size
 have z5 := n5.size
 have z6 := p6.size
 have k24 : Ext w2 w4 := n3.keep.keep p4.keep (by simp)
 have k46 : Ext w4 w6 := n5.keep.keep p6.keep (by simp)
 have k26 := k24.trans k46
 have k16 := n2.keep.trans k26
 have k6 : Ext w w6 := n1.keep.trans k16
 have b4 : Blk w6 w.heap.size 169 [.func (.yield y) #[] #[]] := n1.blk.keep k16 (by simp)
 have bp : Blk w6 w1.heap.size 171 [.pointer (some ⟨b, o, none⟩), .bool false] := n2.blk.keep k26 (by simp)
 have b3 : Blk w6 w2.heap.size 172 [.slice (some ⟨w1.heap.size, 0, none⟩) 1 1] := p4.blk.keep k46 (by simp)
 have b5 : Blk w6 w4.heap.size 173 [.func (.func 117) #[] #[pt w2.heap.size, pt w.heap.size, pt w4.heap.size]] := p6.blk
 have x4 : w.heap.size ∉ X := hX' (Nat.le_refl _)
 have xp : w1.heap.size ∉ X := hX' (by omega)
 have x3 : w2.heap.size ∉ X := hX' (by omega)
 have x5 : w4.heap.size ∉ X := hX' (by omega)
 replace hG := hG.ext k6
 replace hf := hf.keep k6 (fun _ _ => by simp)
 replace hJ := H.ext hJ k6
 clear c1 n1 n2 n3 p4 n5 p6
 refine BJ (α := Nat) (fun k => [(3, pt w2.heap.size), (4, pt w4.heap.size)]) (fun k W => k ≤ 1 ∧ Keep X w W ∧ (k = 1 → J [] W) ∧ (k = 0 → J (preF false f) W) ∧ GF W ∧ PF (fun b => b ∉ X ∧ b < w.heap.size) W b o f ∧ Blk W w2.heap.size 172 [.slice (some ⟨w1.heap.size, 0, none⟩) k 1] ∧
  Blk W w1.heap.size 171 [.pointer (some ⟨b, o, none⟩), .bool false] ∧ Blk W w.heap.size 169 [.func (.yield y) #[] #[]] ∧ Blk W w4.heap.size 173 [.func (.func 117) #[] #[pt w2.heap.size, pt w.heap.size, pt w4.heap.size]]) (fun k => k) 1 ⟨rfl, rfl, trivial⟩
  ⟨by omega, k6.any, fun _ => hJ, fun h => by omega, hG, hf, b3, bp, b4, b5⟩ ?_
 clear b3 bp b4 b5 hG hf hJ
 rintro k W fr ⟨hk, kW, hJ1, hJ0, hGW, hfW, b3, bp, b4, b5⟩
 repeat refine nx rfl ?_
 by_cases hk0 : k = 0
 ·subst hk0
  (refine AA (AG rfl (Blk.cell (by assumption) (by rfl)) ?_) <;> refine As rfl (DF rfl rfl (by omega) ?_))
  repeat first | refine nx rfl ?_ | refine nf rfl ?_
  exact A1 rfl ⟨kW, .inl (hJ0 rfl)⟩
 obtain rfl : k = 1 := by omega
 (refine AA (AG rfl (Blk.cell (by assumption) (by rfl)) ?_) <;> refine As rfl (DI rfl rfl (by omega) ?_))
 repeat refine nx rfl ?_
 (refine AA (AG rfl (Blk.cell (by assumption) (by rfl)) ?_) <;> refine AG rfl (Blk.cell (by assumption) (by rfl)) ?_ <;> refine As rfl (W_sub rfl rfl (by first | exact Am (by omega) (by omega) | exact At (by omega) (by omega) | exact Al (by omega) (by omega)) ?_))
 refine CD (k := 0) rfl rfl rfl (by omega) ?_
 refine AX rfl bp rfl ?_
 refine BE (cs := [.pointer (some ⟨b, o, none⟩), .bool false]) rfl rfl (by rfl) (BG rfl) (fun w7 n7 => ?_)
 refine AJ ?_
 have l3 := b3.lt
 have b37 := b3.keep n7.keep (by simp)
 have z7 := n7.size
 repeat refine nx rfl ?_
 (refine AA (AG rfl (Blk.cell (by assumption) (by rfl)) ?_) <;> refine AG rfl (Blk.cell (by assumption) (by rfl)) ?_ <;> refine As rfl (W_sub rfl rfl (by first | exact Am (by omega) (by omega) | exact At (by omega) (by omega) | exact Al (by omega) (by omega)) ?_))
 refine W_slice_h rfl rfl (by omega) (by omega) ?_
 refine Ao (v := .slice (some ⟨w1.heap.size, 0, none⟩) 0 1) rfl rfl rfl b37 (by simp) (fun w8 p8 => ?_)
 repeat refine nx rfl ?_
 have b7 := n7.blk.keep p8.keep (by simp; omega)
 have k78 : Keep [w2.heap.size] W w8 := (n7.keep.mono (fun _ h => by cases h)).trans p8.keep (fun _ h _ => h)
 have m24 : w.heap.size ≠ w2.heap.size := by omega
 have m25 : w4.heap.size ≠ w2.heap.size := by omega
 have bp8 := bp.keep k78 (by simp; omega)
 have b48 := b4.keep k78 (by simp; omega)
 have b58 := b5.keep k78 (by simp; omega)
 have hG8 := hGW.keep k78 (fun x hx => by simp at hx; omega)
 have hf8 := hfW.keep k78 (fun x hx => by have := hx.2; simp; omega)
 have hJ8 := H.keep (hJ1 rfl) k78 (fun x hx => by simp at hx; omega)
 have kW8 : Keep X w w8 := kW.trans k78 (fun x hx h => by simp at hx; omega)
 have e0 : w8.cell? ⟨W.heap.size, 0 + 0, none⟩ = some (.pointer (some ⟨b, o, none⟩)) := b7.cell rfl
 have e1 : w8.cell? ⟨W.heap.size, 0 + 1, none⟩ = some (.bool false) := b7.cell rfl
 (refine AA (AG rfl (Blk.cell (by assumption) (by rfl)) ?_) <;> refine AD rfl (AG rfl (Blk.cell (by assumption) (by rfl)) ?_) <;> refine AD rfl (AG rfl (Blk.cell (by assumption) (by rfl)) ?_))
 refine B5 (v1 := []) (v2 := [pt w2.heap.size, pt w.heap.size, pt w4.heap.size]) (vs := [.pointer (some ⟨b, o, none⟩), .bool false, .int .i64 0]) rfl (visit_ok H w2.heap.size w.heap.size w4.heap.size x4 x5 (dpF f) w8 b o f false 0 [] (Nat.le_refl _) (by omega) hf8 hG8 b48 b58 hJ8 (by simp)) rfl ?_
 rintro _ w9 ⟨k9, hr⟩
 have b39 := p8.blk.keep k9 x3
 have kW9 : Keep X w w9 := kW8.trans k9 (fun _ h _ => h)
 rcases hr with ⟨rfl, hJ9⟩ | ⟨rfl, M, hM1, hM2, hD⟩
 ·refine A9 rfl ?_
  repeat first | refine nx rfl ?_ | refine nf rfl ?_
  refine ⟨0, ⟨rfl, ⟨rfl, rfl, trivial⟩, ⟨by omega, kW9, fun h => by omega, fun _ => by simpa using hJ9, hG8.keep k9 H.glob, hf8.keep k9 (fun _ h => h.1), b39, bp8.keep k9 xp, b48.keep k9 x4, b58.keep k9 x5⟩⟩, by omega⟩
 ·refine A9 rfl ?_
  repeat refine nx rfl ?_
  exact fin_ret0 rfl ⟨kW9, .inr ⟨M, hM1, hM2, by simpa using hD⟩⟩
theorem nodes_ok (w : World) (b o : Nat) : Fn Tryz.prog 71 [.pointer (some ⟨b, o, none⟩)] w fun v w' => v = .func (.func 116) #[] #[pt w.heap.size] ∧ New w w' 76 [.pointer (some ⟨b, o, none⟩)] := by
 refine Ab Tryz.func71 rfl Tryz.ntmps71 (Nat.le_of_ble_eq_true rfl) (by kernel_rfl) ?_
 repeat refine nx rfl ?_
 (refine AA ?_; refine Bq (L := [.pointer (some ⟨b, o, none⟩)]) rfl (fun w1 n1 => ?_))
 refine AC (Az ?_)
 repeat refine nx rfl ?_
 refine AA (BH rfl rfl (AC (Ct rfl ?_)))
 repeat refine nx rfl ?_
 exact AO rfl ⟨rfl, n1⟩
theorem preF_len : ∀ f i, (preF i f).length = szF f
 | .mk op nm v b args, i => by
  simp only [preF, szF, List.length_cons, preL_len args]
where preL_len : ∀ (l : List Fml) (i : Bool), (DN i l).length = szL l
 | [], _ => rfl
 | f :: l, i => by simp only [DN, szL, List.length_append, preF_len f i, preL_len l i]
theorem fsize_ok (w : World) (v : Value) (f : Fml) (hf : FAt A0 w v f) (hG : GF w) (hN : 10 ≤ w.heap.size) (hd : dpF f ≤ 5000) (hz : szF f ≤ 1000000) : Fn Tryz.prog 39 [v] w fun u w' => u = .int .i64 (szF f : Int) ∧ Ext w w' := by
 have hflt := hf.lt
 obtain ⟨cs, rfl, hcs, hone⟩ := hf.cells
 refine fn_of_wcD Tryz.func39 rfl Tryz.ntmps39 (Nat.le_of_ble_eq_true rfl) (by kernel_rfl) ?_
 repeat refine nx rfl ?_
 (refine AA ?_; refine Bq (L := cs) rfl (fun w1 n1 => ?_))
 refine AC (AF rfl ?_)
 repeat refine nx rfl ?_
 (refine AA ?_; refine Ay (fun w2 n2 => ?_))
 refine Ao (v := .int .i64 0) rfl rfl rfl n2.blk (by simp) (fun w3 p3 => ?_)
 repeat refine nx rfl ?_
 have z1 := n1.size
 have z2 := n2.size
 have z3 := p3.size
 have k23 := n2.keep.keep p3.keep (by simp)
 have k3 : Ext w w3 := n1.keep.trans k23
 have b1 := n1.blk.keep k23 (by simp)
 have b2 : Blk w3 w1.heap.size 3 [.int .i64 0] := p3.blk
 have hf3 : PF (fun b => b < w1.heap.size) w3 w.heap.size 0 f := ⟨by omega, cs, hcs, b1.cells, (hflt.ext k3).mono fun x hx => by have := hx.2; omega⟩
 refine AA ?_
 refine AS (nodes_ok w3 _ _) rfl ?_
 rintro _ w4 ⟨rfl, n4⟩
 repeat refine nx rfl ?_
 have z4 := n4.size
 replace b2 := b2.keep n4.keep (by simp)
 replace hf3 := hf3.keep n4.keep (fun _ _ => by simp)
 have b4 := n4.blk
 have k4 : Ext w w4 := k3.trans n4.keep
 refine C_range [] [pt w3.heap.size] rfl (by kernel_rfl) fun Rdy Bsy Don w6 HL k6 s6 m6 r6 => ?_
 replace b2 := b2.keep k6 (by simp)
 replace b4 := b4.keep k6 (by simp)
 replace hf3 := hf3.keep k6 (fun _ _ => by simp)
 have e6 : Ext w w6 := k4.trans k6
 have hlen : w6.heap.size = w.heap.size + 5 := by omega
 obtain ⟨J, hJ⟩ : ∃ J : List Nd → World → Prop, ∀ l W, J l W ↔ (Ext w W ∧ Blk W w1.heap.size 3 [.int .i64 l.length] ∧ Rdy W ∧ W.heap[w4.heap.size]? = some (.deferred (some [])) ) := ⟨_, fun _ _ => Iff.rfl⟩
 have H : NodesR (.func (.yield (w4.heap.size + 1)) #[] #[]) [w1.heap.size, w4.heap.size + 1] w6.heap.size (preF false f) J (fun _ _ => False) := by
  refine ⟨⟨_, rfl⟩, fun x hx => by simp at hx; omega, fun hj k hY => ?_, fun {L W b o g i} hj hp hP => ?_⟩
  ·obtain ⟨j1, j2, j3, j4⟩ := (hJ _ _).1 hj
   exact (hJ _ _).2 ⟨j1.keep k (fun x hx => by have := hY x hx; omega), j2.keep k (fun h => by have := hY _ h; omega), HL.rdy j3 k (fun h => by have := hY _ h; omega), (k.block _ (by have := HL.lt j3; omega) (fun h => by have := hY _ h; omega)).trans j4⟩
  ·obtain ⟨j1, j2, j3, j4⟩ := (hJ _ _).1 hj
   have hlt := HL.lt j3
   have hLl : L.length + 1 ≤ 1000000 := by
    have := hP.length_le
    rw [preF_len] at this
    simp at this; omega
   refine YldP.mono (R := fun v W' => v = .bool true ∧ Keep [w1.heap.size, w4.heap.size + 1] W W' ∧ J (L ++ [(g, i)]) W') (Y := fun _ _ => False) (HL.round j3 rfl ?_) (fun v W' h => ⟨h.2.1, .inl ⟨h.1, h.2.2⟩⟩) (fun _ _ h => h)
   repeat refine nx rfl ?_
   refine ⟨j3, fun W2 q2 y2s y2 => ?_⟩
   replace j2 := j2.keep q2 (by simp; omega)
   replace j4 := (q2.block _ (by omega) (by simp)).trans j4
   have e2 := j1.keep q2 (by simp; omega)
   have q2' : Keep [w1.heap.size, w4.heap.size + 1] W W2 := q2.mono (fun x hx => by simp at hx; simp [hx])
   repeat refine nx rfl ?_
   (refine AA (AG rfl (Blk.cell (by assumption) (by rfl)) ?_) <;> refine BK rfl rfl (by first | exact Am (by omega) (by omega) | exact At (by omega) (by omega) | exact Al (by omega) (by omega)) ?_)
   refine Ao (v := .int .i64 ((L.length : Int) + 1)) rfl rfl rfl j2 (by simp) (fun W3 p3 => ?_)
   obtain ⟨q3, z3, y3⟩ := p3
   replace j4 := (q3.block _ (by omega) (by simp; omega)).trans j4
   replace e2 := e2.keep q3 (by simp; omega)
   replace y2 := HL.bsy y2 q3 (by simp; omega)
   have q3' : Keep [w1.heap.size, w4.heap.size + 1] W W3 := q2'.trans q3 (fun x hx _ => by simp at hx; simp [hx])
   repeat refine nx rfl ?_
   refine Q_rnd y2 fun W5 q5 z5 y5 => ⟨rfl, q3'.trans q5 (fun x hx _ => by simp at hx; simp [hx]), (hJ _ _).2 ⟨e2.keep q5 (by simp; omega), ?_, y5, (q5.block _ (by omega) (by simp)).trans j4⟩⟩
   rw [show ((L ++ [(g, i)]).length : Int) = (L.length : Int) + 1 by simp]
   exact y3.keep q5 (by simp; omega)
 refine Fn.mono (nodesIt_ok w6 w3.heap.size w.heap.size 0 f H b4 (hf3.mono fun x hx => by simp; omega) (hG.ext e6) (Nat.le_trans hN e6.size) hd ((hJ _ _).2 ⟨e6, b2, r6, m6⟩) (fun x hx => by simp at hx; omega)) ?_
 rintro v w7 ⟨_, hj | ⟨_, _, _, hh⟩⟩
 case inr => exact hh.elim
 obtain ⟨j1, j2, j3, j4⟩ := (hJ _ _).1 hj
 have hlt := HL.lt j3
 refine .inl ⟨j3, fun w8 k8 s8 => ?_⟩
 clear hJ H hj HL r6 m6 b4
 replace j2 := j2.keep k8 (by simp; omega)
 replace j4 := (k8.block _ (by omega) (by simp)).trans j4
 have e8 := j1.keep k8 (by simp; omega)
 rw [preF_len] at j2
 repeat refine nx rfl ?_
 (refine AA (AG rfl (Blk.cell (by assumption) (by rfl)) ?_) <;> refine AC (AF rfl ?_))
 repeat refine nx rfl ?_
 refine finD_mark j4 fun w9 k9 s9 => ?_
 exact finD_ret1 rfl ⟨rfl, e8.keep k9 (by simp; omega)⟩
end Go.Proofs.YtfcgdbmoncnibaaGreatDoor
namespace Go.Proofs.YtfcgdbmoncnibaaGreatDoor
open Go.RowKit
set_option linter.unusedVariables false
theorem madeReq3 : (madeCells (Value.agg #[AL [], AL [], .int .i64 0, .int .i64 0, AL [], .int .i64 0, .int .i64 0, .slice none 0 0]).cells (3 * 8)).toList = [AL [], AL [], .int .i64 0, .int .i64 0, AL [], .int .i64 0, .int .i64 0, .slice none 0 0, AL [], AL [], .int .i64 0, .int .i64 0, AL [], .int .i64 0, .int .i64 0, .slice none 0 0, AL [], AL [], .int .i64 0, .int .i64 0, AL [], .int .i64 0, .int .i64 0, .slice none 0 0] := by kernel_rfl
def exF : Fml := ⟨12, [], 0, 0, [⟨7, [], 0, 0, [isF [114] 1, ⟨13, [], 0, 3, [isF [103] 1]⟩]⟩]⟩
def exT : Fml := ⟨1, [], 0, 0, []⟩
def exS : Spc := ⟨[⟨[114], true, 2⟩, ⟨[103], false, 3⟩], [⟨[112], [111, 110, 101], 2, exF⟩, ⟨[112], [116, 119, 111], 1, exT⟩, ⟨[113], [111, 110, 101], 2, isF [103] 2⟩]⟩
theorem FAt.fives {ok : Nat → Prop} {w : World} {v : Value} {f : Fml} (h : FAt ok w v f) : ∃ c0 c1 c2 c3 c4, v = .agg [c0, c1, c2, c3, c4].toArray ∧ oneC [c0, c1, c2, c3, c4] := by
 obtain ⟨cs, rfl, hcs, hone⟩ := FAt.cells h
 obtain ⟨c0, c1, c2, c3, c4, rfl⟩ := Ch hcs
 exact ⟨_, _, _, _, _, rfl, hone⟩
theorem example_ok (w : World) : Fn Tryz.prog 32 [] w fun v w' => ∃ c, v = .agg c.toArray ∧ spcR.fits A0 w' c exS ∧ Ext w w' := by
 refine Ab Tryz.func32 rfl Tryz.ntmps32 (Nat.le_of_ble_eq_true rfl) (by kernel_rfl) ?_
 repeat refine nx rfl ?_
 (refine AA ?_; refine Ay (fun w1 n1 => ?_))
 have b0 : Blk w1 w.heap.size 28 [.slice none 0 0, .slice none 0 0] := n1.blk
 have z1 := n1.size
 repeat refine nx rfl ?_
 refine AA ?_
 refine AS (ris_ok w1 [114] 1) rfl ?_
 rintro vr w2 ⟨k2, fr⟩
 refine AS (ris_ok w2 [103] 1) rfl ?_
 rintro vg w3 ⟨k3, fg⟩
 obtain ⟨g0, g1, g2, g3, g4, rfl, og⟩ := FV.five fg
 refine AV (out := [g0, g1, g2, g3, g4]) rfl (by omega) (by rw [made5]; rfl) (fun w4 n4 => ?_)
 have z4 : w.heap.size < w3.heap.size := by have := k2.size; have := k3.size; omega
 obtain ⟨S4, F4⟩ := FsAt.fresh (ok := fun b => b ≠ w.heap.size) (L := [[g0, g1, g2, g3, g4]]) n4 (FsAt.one (fg.any rfl) rfl) (by simp; omega) (by simp)
 refine Ad (by rfl) (by rfl) ?_
 refine AS (rtwoX_ok w4 7 (fun b => b ≠ w.heap.size) _ _ (isF [114] 1) ⟨13, [], 0, 3, [isF [103] 1]⟩ (fr.any rfl) (FAt.node 13 [] 0 3 S4 F4) (fun x hx => by have := n4.keep.size; omega)) rfl ?_
 rintro va w5 ⟨k5, fa⟩
 refine AS (roneX_ok w5 12 (fun b => b ≠ w.heap.size) _ _ fa (by have := k5.size; have := n4.keep.size; omega) (fun x hx => by have := k5.size; have := n4.keep.size; omega)) rfl ?_
 rintro vf w6 ⟨k6, fF⟩
 obtain ⟨f0, f1, f2, f3, f4, rfl, of⟩ := FAt.fives fF
 refine BE (cs := [f0, f1, f2, f3, f4]) rfl rfl (by rfl) of (fun w7 n7 => ?_)
 have z6 : w.heap.size < w6.heap.size := by have := k6.size; have := k5.size; have := n4.keep.size; omega
 have b7 := n7.blk
 have k7 : Ext w1 w7 := ((((k2.trans k3).trans n4.keep).trans k5).trans k6).trans n7.keep
 replace b0 := b0.keep k7 (by simp)
 replace fF := fF.ext n7.keep
 clear fr fg fa S4 F4
 repeat refine nx rfl ?_
 refine Bb (.read 0 (.read 1 (.read 3 (.read 4 (.alt 2 (.alt 5 (.read 6 (.alt 7 (.read 8 (.alt 9 (.read 10 (.alt 11 .done .stop)) .stop)) .stop)) .stop) (.alt 5 (.read 6 (.alt 2 (.alt 7 (.read 8 (.alt 9 (.read 10 (.alt 11 .done .stop)) .stop)) .stop) (.alt 7 (.read 8 (.alt 2 (.alt 9 (.read 10 (.alt 11 .done .stop)) .stop) (.alt 9 (.alt 2 (.read 10 (.alt 11 .done .stop)) .stop) .stop))) .stop))) .stop)))))) BP (by kernel_rfl) (fun wd kd ed => ⟨Keep [w.heap.size] wd, ?_, ?_⟩)
 ·exact Keep.refl _ _
 have ca : ∀ W, Keep [w.heap.size] wd W → Cells W w6.heap.size 0 [f0, f1, f2, f3, f4] := fun W e => ((b7.keep kd (by simp)).keep e (by simp; omega)).cells
 replace fF := fF.ext kd
 replace b0 := b0.keep kd (by simp)
 have k0 := k7.trans kd
 have lz := k0.size
 have er : Ext wd wd := Ext.refl _
 ((apply D_R rfl rfl; (intro W hW; refine Ad (by rfl) (by rfl) ?_; exact Z3)) <;> (apply D_R rfl rfl; (intro W hW; refine Ad (by rfl) (by rfl) ?_; exact Z3)) <;> (apply D_R rfl rfl; (intro W hW; refine Ac rfl (by rfl) (ca W hW) ?_; exact Z3)) <;> (apply D_R rfl rfl; (intro W hW; refine Ad (by rfl) (by rfl) ?_; exact Z3)))
 refine D_A rfl ?_ ?_
 ·refine AV (out := Cb ⟨[114], true, 2⟩ ++ Cb ⟨[103], false, 3⟩) rfl (by omega) (by rw [madeSgn2]; rfl) (fun v2 m2 => ?_)
  have bs := m2.blk
  have e2 := er.trans m2.keep
  have l2 := e2.size
  replace fF := fF.ext m2.keep
  try replace ft := ft.ext m2.keep
  try replace fq := fq.ext m2.keep
  try replace br := br.keep m2.keep (by simp)
  refine AJ ⟨Keep [w.heap.size] wd, fun _ e => e, e2.any, ?_⟩
  refine D_E rfl ?_
  refine AS (rtrue_ok v2) rfl ?_
  rintro vt v5 ⟨q5, ft⟩
  obtain ⟨t0, t1, t2, t3, t4, rfl, ot⟩ := FV.five ft
  have e5 := e2.trans q5
  have l5 := e5.size
  replace fF := fF.ext q5
  try replace bs := bs.keep q5 (by simp)
  refine AJ ⟨Keep [w.heap.size] wd, fun _ e => e, e5.any, ?_⟩
  ((apply D_R rfl rfl; (intro W hW; refine Ad (by rfl) (by rfl) ?_; exact AJ ⟨rfl, rfl, rfl⟩)))
  refine D_E rfl ?_
  refine AS (ris_ok v5 [103] 2) rfl ?_
  rintro vq v7 ⟨q7, fq⟩
  obtain ⟨q0, q1, q2, q3, q4, rfl, oq⟩ := FV.five fq
  have e7 := e5.trans q7
  have l7 := e7.size
  replace fF := fF.ext q7
  replace ft := ft.ext q7
  try replace bs := bs.keep q7 (by simp)
  refine AJ ⟨Keep [w.heap.size] wd, fun _ e => e, e7.any, ?_⟩
  ((apply D_R rfl rfl; (intro W hW; refine Ad (by rfl) (by rfl) ?_; exact AJ ⟨rfl, rfl, rfl⟩)))
  refine D_E rfl ?_
  refine AV (out := [AL [112], AL [111, 110, 101], .int .i64 2] ++ [f0, f1, f2, f3, f4] ++ ([AL [112], AL [116, 119, 111], .int .i64 1] ++ [t0, t1, t2, t3, t4]) ++ ([AL [113], AL [111, 110, 101], .int .i64 2] ++ [q0, q1, q2, q3, q4])) rfl (by omega) (by rw [madeReq3]; rfl) (fun v9 m9 => ?_)
  have br := m9.blk
  have e9 := e7.trans m9.keep
  have l9 := e9.size
  replace fF := fF.ext m9.keep
  replace ft := ft.ext m9.keep
  replace fq := fq.ext m9.keep
  try replace bs := bs.keep m9.keep (by simp)
  refine AJ ⟨Keep [w.heap.size] wd, fun _ e => e, e9.any, ?_⟩
  ((apply D_R rfl rfl; (intro W hW; refine Ad (by rfl) (by rfl) ?_; exact AJ ⟨rfl, rfl, rfl⟩)))
  refine D_E rfl ?_
  have sz := e9.size
  have ls : w.heap.size < wd.heap.size := by omega
  have lr : w.heap.size < v7.heap.size := by omega
  refine AZ (cs := [.slice (some ⟨wd.heap.size, 0, none⟩) 2 2, .slice (some ⟨v7.heap.size, 0, none⟩) 3 3]) rfl rfl rfl (BG rfl) (b0.keep e9 (by simp)) (by simp) (fun vz pz => ?_)
  have bz : Blk vz w.heap.size 28 [.slice (some ⟨wd.heap.size, 0, none⟩) 2 2, .slice (some ⟨v7.heap.size, 0, none⟩) 3 3] := pz.blk
  have kz : Keep [w.heap.size] wd vz := (e9.any).trans pz.keep (fun _ h _ => h)
  refine AJ ⟨Keep [w.heap.size] wd, fun _ e => e, kz, ?_⟩
  refine A8 ?_
  repeat refine nx rfl ?_
  refine A6 rfl rfl rfl bz.cells ⟨_, rfl, ?_, (n1.keep.trans k0).keep kz (by simp)⟩
  replace fF := (fF.keep pz.keep (fun b hb => by simpa using hb)).mono (ok' := A0) fun _ _ => trivial
  replace ft := (FAt.any (ok' := fun b => b ≠ w.heap.size) (w' := vz) ft rfl).mono (ok' := A0) fun _ _ => trivial
  replace fq := (FAt.any (ok' := fun b => b ≠ w.heap.size) (w' := vz) fq rfl).mono (ok' := A0) fun _ _ => trivial
  refine ⟨_, _, rfl, ⟨_, _, [Cb ⟨[114], true, 2⟩, Cb ⟨[103], false, 3⟩], rfl, ?_, ?_⟩, ⟨_, _, [[AL [112], AL [111, 110, 101], .int .i64 2] ++ [f0, f1, f2, f3, f4], [AL [112], AL [116, 119, 111], .int .i64 1] ++ [t0, t1, t2, t3, t4], [AL [113], AL [111, 110, 101], .int .i64 2] ++ [q0, q1, q2, q3, q4]], rfl, ?_, ?_⟩⟩
  ·exact ⟨_, _, rfl, Nat.le_refl _, by simp, (fun h => by cases h), .inr ⟨_, _, rfl, trivial, (bs.keep pz.keep (by simp; omega)).cells⟩⟩
  ·exact (RsAt.one (R := sgnR) rfl).app (RsAt.one (R := sgnR) rfl)
  ·exact ⟨_, _, rfl, Nat.le_refl _, by simp, (fun h => by cases h), .inr ⟨_, _, rfl, trivial, (br.keep pz.keep (by simp; omega)).cells⟩⟩
  ·exact ((RsAt.one (R := reqR) (c := [AL [112], AL [111, 110, 101], .int .i64 2] ++ [f0, f1, f2, f3, f4]) ⟨_, rfl, rfl, fF⟩).app (RsAt.one (R := reqR) (c := [AL [112], AL [116, 119, 111], .int .i64 1] ++ [t0, t1, t2, t3, t4]) ⟨_, rfl, rfl, ft⟩)).app (RsAt.one (R := reqR) (c := [AL [113], AL [111, 110, 101], .int .i64 2] ++ [q0, q1, q2, q3, q4]) ⟨_, rfl, rfl, fq⟩)
 ·refine D_E rfl ?_
  refine AS (rtrue_ok wd) rfl ?_
  rintro vt v5 ⟨q5, ft⟩
  obtain ⟨t0, t1, t2, t3, t4, rfl, ot⟩ := FV.five ft
  have e5 := er.trans q5
  have l5 := e5.size
  replace fF := fF.ext q5
  try replace bs := bs.keep q5 (by simp)
  refine AJ ⟨Keep [w.heap.size] wd, fun _ e => e, e5.any, ?_⟩
  ((apply D_R rfl rfl; (intro W hW; refine Ad (by rfl) (by rfl) ?_; exact AJ ⟨rfl, rfl, rfl⟩)))
  refine D_A rfl ?_ ?_
  ·refine AV (out := Cb ⟨[114], true, 2⟩ ++ Cb ⟨[103], false, 3⟩) rfl (by omega) (by rw [madeSgn2]; rfl) (fun v2 m2 => ?_)
   have bs := m2.blk
   have e2 := e5.trans m2.keep
   have l2 := e2.size
   replace fF := fF.ext m2.keep
   try replace ft := ft.ext m2.keep
   try replace fq := fq.ext m2.keep
   try replace br := br.keep m2.keep (by simp)
   refine AJ ⟨Keep [w.heap.size] wd, fun _ e => e, e2.any, ?_⟩
   refine D_E rfl ?_
   refine AS (ris_ok v2 [103] 2) rfl ?_
   rintro vq v7 ⟨q7, fq⟩
   obtain ⟨q0, q1, q2, q3, q4, rfl, oq⟩ := FV.five fq
   have e7 := e2.trans q7
   have l7 := e7.size
   replace fF := fF.ext q7
   replace ft := ft.ext q7
   try replace bs := bs.keep q7 (by simp)
   refine AJ ⟨Keep [w.heap.size] wd, fun _ e => e, e7.any, ?_⟩
   ((apply D_R rfl rfl; (intro W hW; refine Ad (by rfl) (by rfl) ?_; exact AJ ⟨rfl, rfl, rfl⟩)))
   refine D_E rfl ?_
   refine AV (out := [AL [112], AL [111, 110, 101], .int .i64 2] ++ [f0, f1, f2, f3, f4] ++ ([AL [112], AL [116, 119, 111], .int .i64 1] ++ [t0, t1, t2, t3, t4]) ++ ([AL [113], AL [111, 110, 101], .int .i64 2] ++ [q0, q1, q2, q3, q4])) rfl (by omega) (by rw [madeReq3]; rfl) (fun v9 m9 => ?_)
   have br := m9.blk
   have e9 := e7.trans m9.keep
   have l9 := e9.size
   replace fF := fF.ext m9.keep
   replace ft := ft.ext m9.keep
   replace fq := fq.ext m9.keep
   try replace bs := bs.keep m9.keep (by simp)
   refine AJ ⟨Keep [w.heap.size] wd, fun _ e => e, e9.any, ?_⟩
   ((apply D_R rfl rfl; (intro W hW; refine Ad (by rfl) (by rfl) ?_; exact AJ ⟨rfl, rfl, rfl⟩)))
   refine D_E rfl ?_
   have sz := e9.size
   have ls : w.heap.size < v5.heap.size := by omega
   have lr : w.heap.size < v7.heap.size := by omega
   refine AZ (cs := [.slice (some ⟨v5.heap.size, 0, none⟩) 2 2, .slice (some ⟨v7.heap.size, 0, none⟩) 3 3]) rfl rfl rfl (BG rfl) (b0.keep e9 (by simp)) (by simp) (fun vz pz => ?_)
   have bz : Blk vz w.heap.size 28 [.slice (some ⟨v5.heap.size, 0, none⟩) 2 2, .slice (some ⟨v7.heap.size, 0, none⟩) 3 3] := pz.blk
   have kz : Keep [w.heap.size] wd vz := (e9.any).trans pz.keep (fun _ h _ => h)
   refine AJ ⟨Keep [w.heap.size] wd, fun _ e => e, kz, ?_⟩
   refine A8 ?_
   repeat refine nx rfl ?_
   refine A6 rfl rfl rfl bz.cells ⟨_, rfl, ?_, (n1.keep.trans k0).keep kz (by simp)⟩
   replace fF := (fF.keep pz.keep (fun b hb => by simpa using hb)).mono (ok' := A0) fun _ _ => trivial
   replace ft := (FAt.any (ok' := fun b => b ≠ w.heap.size) (w' := vz) ft rfl).mono (ok' := A0) fun _ _ => trivial
   replace fq := (FAt.any (ok' := fun b => b ≠ w.heap.size) (w' := vz) fq rfl).mono (ok' := A0) fun _ _ => trivial
   refine ⟨_, _, rfl, ⟨_, _, [Cb ⟨[114], true, 2⟩, Cb ⟨[103], false, 3⟩], rfl, ?_, ?_⟩, ⟨_, _, [[AL [112], AL [111, 110, 101], .int .i64 2] ++ [f0, f1, f2, f3, f4], [AL [112], AL [116, 119, 111], .int .i64 1] ++ [t0, t1, t2, t3, t4], [AL [113], AL [111, 110, 101], .int .i64 2] ++ [q0, q1, q2, q3, q4]], rfl, ?_, ?_⟩⟩
   ·exact ⟨_, _, rfl, Nat.le_refl _, by simp, (fun h => by cases h), .inr ⟨_, _, rfl, trivial, (bs.keep pz.keep (by simp; omega)).cells⟩⟩
   ·exact (RsAt.one (R := sgnR) rfl).app (RsAt.one (R := sgnR) rfl)
   ·exact ⟨_, _, rfl, Nat.le_refl _, by simp, (fun h => by cases h), .inr ⟨_, _, rfl, trivial, (br.keep pz.keep (by simp; omega)).cells⟩⟩
   ·exact ((RsAt.one (R := reqR) (c := [AL [112], AL [111, 110, 101], .int .i64 2] ++ [f0, f1, f2, f3, f4]) ⟨_, rfl, rfl, fF⟩).app (RsAt.one (R := reqR) (c := [AL [112], AL [116, 119, 111], .int .i64 1] ++ [t0, t1, t2, t3, t4]) ⟨_, rfl, rfl, ft⟩)).app (RsAt.one (R := reqR) (c := [AL [113], AL [111, 110, 101], .int .i64 2] ++ [q0, q1, q2, q3, q4]) ⟨_, rfl, rfl, fq⟩)
  ·refine D_E rfl ?_
   refine AS (ris_ok v5 [103] 2) rfl ?_
   rintro vq v7 ⟨q7, fq⟩
   obtain ⟨q0, q1, q2, q3, q4, rfl, oq⟩ := FV.five fq
   have e7 := e5.trans q7
   have l7 := e7.size
   replace fF := fF.ext q7
   replace ft := ft.ext q7
   try replace bs := bs.keep q7 (by simp)
   refine AJ ⟨Keep [w.heap.size] wd, fun _ e => e, e7.any, ?_⟩
   ((apply D_R rfl rfl; (intro W hW; refine Ad (by rfl) (by rfl) ?_; exact AJ ⟨rfl, rfl, rfl⟩)))
   refine D_A rfl ?_ ?_
   ·refine AV (out := Cb ⟨[114], true, 2⟩ ++ Cb ⟨[103], false, 3⟩) rfl (by omega) (by rw [madeSgn2]; rfl) (fun v2 m2 => ?_)
    have bs := m2.blk
    have e2 := e7.trans m2.keep
    have l2 := e2.size
    replace fF := fF.ext m2.keep
    try replace ft := ft.ext m2.keep
    try replace fq := fq.ext m2.keep
    try replace br := br.keep m2.keep (by simp)
    refine AJ ⟨Keep [w.heap.size] wd, fun _ e => e, e2.any, ?_⟩
    refine D_E rfl ?_
    refine AV (out := [AL [112], AL [111, 110, 101], .int .i64 2] ++ [f0, f1, f2, f3, f4] ++ ([AL [112], AL [116, 119, 111], .int .i64 1] ++ [t0, t1, t2, t3, t4]) ++ ([AL [113], AL [111, 110, 101], .int .i64 2] ++ [q0, q1, q2, q3, q4])) rfl (by omega) (by rw [madeReq3]; rfl) (fun v9 m9 => ?_)
    have br := m9.blk
    have e9 := e2.trans m9.keep
    have l9 := e9.size
    replace fF := fF.ext m9.keep
    replace ft := ft.ext m9.keep
    replace fq := fq.ext m9.keep
    try replace bs := bs.keep m9.keep (by simp)
    refine AJ ⟨Keep [w.heap.size] wd, fun _ e => e, e9.any, ?_⟩
    ((apply D_R rfl rfl; (intro W hW; refine Ad (by rfl) (by rfl) ?_; exact AJ ⟨rfl, rfl, rfl⟩)))
    refine D_E rfl ?_
    have sz := e9.size
    have ls : w.heap.size < v7.heap.size := by omega
    have lr : w.heap.size < v2.heap.size := by omega
    refine AZ (cs := [.slice (some ⟨v7.heap.size, 0, none⟩) 2 2, .slice (some ⟨v2.heap.size, 0, none⟩) 3 3]) rfl rfl rfl (BG rfl) (b0.keep e9 (by simp)) (by simp) (fun vz pz => ?_)
    have bz : Blk vz w.heap.size 28 [.slice (some ⟨v7.heap.size, 0, none⟩) 2 2, .slice (some ⟨v2.heap.size, 0, none⟩) 3 3] := pz.blk
    have kz : Keep [w.heap.size] wd vz := (e9.any).trans pz.keep (fun _ h _ => h)
    refine AJ ⟨Keep [w.heap.size] wd, fun _ e => e, kz, ?_⟩
    refine A8 ?_
    repeat refine nx rfl ?_
    refine A6 rfl rfl rfl bz.cells ⟨_, rfl, ?_, (n1.keep.trans k0).keep kz (by simp)⟩
    replace fF := (fF.keep pz.keep (fun b hb => by simpa using hb)).mono (ok' := A0) fun _ _ => trivial
    replace ft := (FAt.any (ok' := fun b => b ≠ w.heap.size) (w' := vz) ft rfl).mono (ok' := A0) fun _ _ => trivial
    replace fq := (FAt.any (ok' := fun b => b ≠ w.heap.size) (w' := vz) fq rfl).mono (ok' := A0) fun _ _ => trivial
    refine ⟨_, _, rfl, ⟨_, _, [Cb ⟨[114], true, 2⟩, Cb ⟨[103], false, 3⟩], rfl, ?_, ?_⟩, ⟨_, _, [[AL [112], AL [111, 110, 101], .int .i64 2] ++ [f0, f1, f2, f3, f4], [AL [112], AL [116, 119, 111], .int .i64 1] ++ [t0, t1, t2, t3, t4], [AL [113], AL [111, 110, 101], .int .i64 2] ++ [q0, q1, q2, q3, q4]], rfl, ?_, ?_⟩⟩
    ·exact ⟨_, _, rfl, Nat.le_refl _, by simp, (fun h => by cases h), .inr ⟨_, _, rfl, trivial, (bs.keep pz.keep (by simp; omega)).cells⟩⟩
    ·exact (RsAt.one (R := sgnR) rfl).app (RsAt.one (R := sgnR) rfl)
    ·exact ⟨_, _, rfl, Nat.le_refl _, by simp, (fun h => by cases h), .inr ⟨_, _, rfl, trivial, (br.keep pz.keep (by simp; omega)).cells⟩⟩
    ·exact ((RsAt.one (R := reqR) (c := [AL [112], AL [111, 110, 101], .int .i64 2] ++ [f0, f1, f2, f3, f4]) ⟨_, rfl, rfl, fF⟩).app (RsAt.one (R := reqR) (c := [AL [112], AL [116, 119, 111], .int .i64 1] ++ [t0, t1, t2, t3, t4]) ⟨_, rfl, rfl, ft⟩)).app (RsAt.one (R := reqR) (c := [AL [113], AL [111, 110, 101], .int .i64 2] ++ [q0, q1, q2, q3, q4]) ⟨_, rfl, rfl, fq⟩)
   ·refine D_E rfl ?_
    refine AV (out := [AL [112], AL [111, 110, 101], .int .i64 2] ++ [f0, f1, f2, f3, f4] ++ ([AL [112], AL [116, 119, 111], .int .i64 1] ++ [t0, t1, t2, t3, t4]) ++ ([AL [113], AL [111, 110, 101], .int .i64 2] ++ [q0, q1, q2, q3, q4])) rfl (by omega) (by rw [madeReq3]; rfl) (fun v9 m9 => ?_)
    have br := m9.blk
    have e9 := e7.trans m9.keep
    have l9 := e9.size
    replace fF := fF.ext m9.keep
    replace ft := ft.ext m9.keep
    replace fq := fq.ext m9.keep
    try replace bs := bs.keep m9.keep (by simp)
    refine AJ ⟨Keep [w.heap.size] wd, fun _ e => e, e9.any, ?_⟩
    refine D_E rfl ?_
    refine AV (out := Cb ⟨[114], true, 2⟩ ++ Cb ⟨[103], false, 3⟩) rfl (by omega) (by rw [madeSgn2]; rfl) (fun v2 m2 => ?_)
    have bs := m2.blk
    have e2 := e9.trans m2.keep
    have l2 := e2.size
    replace fF := fF.ext m2.keep
    try replace ft := ft.ext m2.keep
    try replace fq := fq.ext m2.keep
    try replace br := br.keep m2.keep (by simp)
    refine AJ ⟨Keep [w.heap.size] wd, fun _ e => e, e2.any, ?_⟩
    ((apply D_R rfl rfl; (intro W hW; refine Ad (by rfl) (by rfl) ?_; exact AJ ⟨rfl, rfl, rfl⟩)))
    refine D_E rfl ?_
    have sz := e2.size
    have ls : w.heap.size < v9.heap.size := by omega
    have lr : w.heap.size < v7.heap.size := by omega
    refine AZ (cs := [.slice (some ⟨v9.heap.size, 0, none⟩) 2 2, .slice (some ⟨v7.heap.size, 0, none⟩) 3 3]) rfl rfl rfl (BG rfl) (b0.keep e2 (by simp)) (by simp) (fun vz pz => ?_)
    have bz : Blk vz w.heap.size 28 [.slice (some ⟨v9.heap.size, 0, none⟩) 2 2, .slice (some ⟨v7.heap.size, 0, none⟩) 3 3] := pz.blk
    have kz : Keep [w.heap.size] wd vz := (e2.any).trans pz.keep (fun _ h _ => h)
    refine AJ ⟨Keep [w.heap.size] wd, fun _ e => e, kz, ?_⟩
    refine A8 ?_
    repeat refine nx rfl ?_
    refine A6 rfl rfl rfl bz.cells ⟨_, rfl, ?_, (n1.keep.trans k0).keep kz (by simp)⟩
    replace fF := (fF.keep pz.keep (fun b hb => by simpa using hb)).mono (ok' := A0) fun _ _ => trivial
    replace ft := (FAt.any (ok' := fun b => b ≠ w.heap.size) (w' := vz) ft rfl).mono (ok' := A0) fun _ _ => trivial
    replace fq := (FAt.any (ok' := fun b => b ≠ w.heap.size) (w' := vz) fq rfl).mono (ok' := A0) fun _ _ => trivial
    refine ⟨_, _, rfl, ⟨_, _, [Cb ⟨[114], true, 2⟩, Cb ⟨[103], false, 3⟩], rfl, ?_, ?_⟩, ⟨_, _, [[AL [112], AL [111, 110, 101], .int .i64 2] ++ [f0, f1, f2, f3, f4], [AL [112], AL [116, 119, 111], .int .i64 1] ++ [t0, t1, t2, t3, t4], [AL [113], AL [111, 110, 101], .int .i64 2] ++ [q0, q1, q2, q3, q4]], rfl, ?_, ?_⟩⟩
    ·exact ⟨_, _, rfl, Nat.le_refl _, by simp, (fun h => by cases h), .inr ⟨_, _, rfl, trivial, (bs.keep pz.keep (by simp; omega)).cells⟩⟩
    ·exact (RsAt.one (R := sgnR) rfl).app (RsAt.one (R := sgnR) rfl)
    ·exact ⟨_, _, rfl, Nat.le_refl _, by simp, (fun h => by cases h), .inr ⟨_, _, rfl, trivial, (br.keep pz.keep (by simp; omega)).cells⟩⟩
    ·exact ((RsAt.one (R := reqR) (c := [AL [112], AL [111, 110, 101], .int .i64 2] ++ [f0, f1, f2, f3, f4]) ⟨_, rfl, rfl, fF⟩).app (RsAt.one (R := reqR) (c := [AL [112], AL [116, 119, 111], .int .i64 1] ++ [t0, t1, t2, t3, t4]) ⟨_, rfl, rfl, ft⟩)).app (RsAt.one (R := reqR) (c := [AL [113], AL [111, 110, 101], .int .i64 2] ++ [q0, q1, q2, q3, q4]) ⟨_, rfl, rfl, fq⟩)
end Go.Proofs.YtfcgdbmoncnibaaGreatDoor
namespace Go.Proofs.YtfcgdbmoncnibaaGreatDoor
set_option linter.unusedVariables false
variable {mk : Prop} [MK mk]
theorem G.bind_assoc {α β γ : Type} (p : G α) (u : α → G β) (q : β → G γ) : (p.bind u).bind q = p.bind fun a => (u a).bind q := by
 induction p with
 | ret a => rfl
 | fail => rfl
 | look k ih => simp only [G.bind]; congr 1; funext o; exact ih o
 | next g ih => simp only [G.bind]; rw [ih]
 | call nt k ih => simp only [G.bind]; congr 1; funext v; exact ih v
theorem CF {S : NT → Prop} {x : BT} {α : Type} {s : List UInt8} {q : Bool → G α} (hx : Aw s (some x) = false) (ht : DW S x false (q true)) (hf : ∀ b, DW S x b (q false)) (b : Bool) : DW S x b ((BU s).bind q) := by
 refine ⟨fun y => ?_, .inr (.inr ⟨?_, ?_⟩)⟩
 ·show DW S x true (G.bind (if Aw s (some y) = true then .next (.ret true) else .ret false) q)
  split
  ·exact ⟨rfl, ht⟩
  ·exact hf true
 ·show G.bind (if Aw s none = true then .next (.ret true) else .ret false) q = G.bind (if Aw s (some x) = true then .next (.ret true) else .ret false) q
  rw [hx]; rfl
 ·exact hf false
theorem good_expect {S : NT → Prop} {x : BT} {α : Type} {s : List UInt8} {q : Unit → G α} (h : DW S x false (q ())) (b : Bool) : DW S x b ((B7 s).bind q) := by
 refine ⟨fun y => ?_, .inr (.inl rfl)⟩
 show DW S x true (G.bind (if Aw s (some y) = true then .next (.ret ()) else .fail) q)
 split
 ·exact ⟨rfl, h⟩
 ·trivial
theorem good_name {S : NT → Prop} {x : BT} {α : Type} {q : List UInt8 → G α} (h : ∀ s, DW S x false (q s)) (b : Bool) : DW S x b (nameG.bind q) := by
 refine ⟨fun y => ?_, .inr (.inl rfl)⟩
 show DW S x true (G.bind (if decide (y.1 = 1) && BV y.2 then .next (.ret y.2) else .fail) q)
 split
 ·exact ⟨rfl, h _⟩
 ·trivial
theorem good_number {S : NT → Prop} {x : BT} {α : Type} {q : Int → G α} (h : ∀ n, DW S x false (q n)) (b : Bool) : DW S x b (numberG.bind q) := by
 refine ⟨fun y => ?_, .inr (.inl rfl)⟩
 show DW S x true (G.bind (if decide (y.1 = 2) then .next (.ret (Da y.2)) else .fail) q)
 split
 ·exact ⟨rfl, h _⟩
 ·trivial
theorem good_take {S : NT → Prop} {x : BT} {α : Type} {tab : List (List UInt8 × Opr)} {q : Option Opr → G α} (hx : tab.lookup x.2 = none) (h : ∀ p, DW S x false (q (some p))) (hn : ∀ b, DW S x b (q none)) (b : Bool) : DW S x b ((takeG tab).bind q) := by
 refine ⟨fun y => ?_, .inr (.inr ⟨?_, hn false⟩)⟩
 ·show DW S x true (G.bind (match tab.lookup y.2 with | some p => .next (.ret (some p)) | none => .ret none) q)
  cases tab.lookup y.2 with
  | none => exact hn true
  | some p => exact ⟨rfl, h p⟩
 ·show q none = G.bind (match tab.lookup x.2 with | some p => .next (.ret (some p)) | none => .ret none) q
  rw [hx]; rfl
theorem good_index {S : NT → Prop} {x : BT} {α : Type} {o : Opr} {q : Option Int → G α} (hx : Aw [91] (some x) = false) (h : ∀ n b, DW S x b (q n)) (b : Bool) : DW S x b ((DG o).bind q) := by
 unfold DG
 split
 ·exact h none b
 ·rw [G.bind_assoc]
  refine CF hx ?_ (fun b => h none b) b
  show DW S x false ((numberG.bind fun n => (B7 [93]).bind fun _ => .ret (some n)).bind q)
  rw [G.bind_assoc]
  refine good_number (fun n => ?_) false
  rw [G.bind_assoc]
  exact good_expect (h _ _) false
theorem Bx {S : NT → Prop} {x : BT} {α : Type} {b : Bool} {nt : NT} {k : nt.T → G α} (hs : S nt) (h : ∀ v, DW S x false (k v)) : DW S x b (.call nt k) := And.intro hs h
theorem Bt {S : NT → Prop} {x : BT} {α : Type} {b : Bool} {a : α} : DW S x b (.ret a) := trivial
def fmlS : NT → Prop
 | .formula => True
 | .orN => True
 | .orL => True
 | .andN => True
 | .andL => True
 | .untilN => True
 | .unary => True
 | .primary => True
 | _ => False
structure StopF (x : BT) : Prop where
 imp : Aw [45, 62] (some x) = false
 or : Aw [124] (some x) = false
 and : Aw [38] (some x) = false
 tru : Aw [116, 114, 117, 101] (some x) = false
 fls : Aw [102, 97, 108, 115, 101] (some x) = false
 opn : Aw [40] (some x) = false
 eq : Aw [61] (some x) = false
 ne : Aw [33, 61] (some x) = false
 br : Aw [91] (some x) = false
 pre : prefixT.lookup x.2 = none
 inf : infixT.lookup x.2 = none
theorem good_formula {S : NT → Prop} {x : BT} (hS : ∀ nt, fmlS nt → S nt) (h : StopF x) : ∀ nt, fmlS nt → DW S x false (body nt)
 | .formula, _ => Bx (hS .orN trivial) fun a => by
  refine CF h.imp ?_ (fun _ => ?_) false
  ·exact Bx (hS .formula trivial) fun _ => Bt
  ·exact Bt
 | .orN, _ => Bx (hS .andN trivial) fun a => Bx (hS .orL trivial) fun _ => Bt
 | .orL, _ => by
  refine CF h.or ?_ (fun _ => ?_) false
  ·exact Bx (hS .andN trivial) fun a => Bx (hS .orL trivial) fun _ => Bt
  ·exact Bt
 | .andN, _ => Bx (hS .untilN trivial) fun a => Bx (hS .andL trivial) fun _ => Bt
 | .andL, _ => by
  refine CF h.and ?_ (fun _ => ?_) false
  ·exact Bx (hS .untilN trivial) fun a => Bx (hS .andL trivial) fun _ => Bt
  ·exact Bt
 | .untilN, _ => Bx (hS .unary trivial) fun a => by
  refine good_take h.inf (fun o => ?_) (fun _ => ?_) false
  ·refine good_index h.br (fun n b => ?_) false
   exact Bx (hS .untilN trivial) fun _ => Bt
  ·exact Bt
 | .unary, _ => by
  refine good_take h.pre (fun o => ?_) (fun _ => ?_) false
  ·refine good_index h.br (fun n b => ?_) false
   exact Bx (hS .unary trivial) fun _ => Bt
  ·exact Bx (hS .primary trivial) fun _ => Bt
 | .primary, _ => by
  refine CF h.tru ?_ (fun b => ?_) false
  ·exact Bt
  refine CF h.fls ?_ (fun b => ?_) b
  ·exact Bt
  refine CF h.opn ?_ (fun b => ?_) b
  ·refine Bx (hS .formula trivial) fun f => ?_
   refine good_expect ?_ false
   exact Bt
  refine good_name (fun s => ?_) b
  refine CF h.eq ?_ (fun b => ?_) false
  ·refine good_number (fun n => ?_) false
   exact Bt
  refine CF h.ne ?_ (fun _ => ?_) b
  ·refine good_number (fun n => ?_) false
   exact Bt
  ·exact Bt
theorem stop_close : StopF (3, [41]) := ⟨by decide, by decide, by decide, by decide, by decide, by decide, by decide, by decide, by decide, by decide, by decide⟩
theorem run_yes {β : Type} {s : List UInt8} {q : Bool → G β} {x : Tok} {l : List Tok} {r : Ans β} (h : Aw s (some (bare x)) = true) (h' : Run (q true) l r) : Run ((BU s).bind q) (x :: l) r := by
 have : Run (BU s) (x :: l) (.ok (true, l)) := Run.look (by
  show Run (if Aw s (some (bare x)) = true then .next (.ret true) else .ret false) _ _
  rw [if_pos h]; exact Run.next (Run.ret _ _))
 exact this.bind h'
theorem C7 {β : Type} {s : List UInt8} {q : Bool → G β} {l : List Tok} {r : Ans β} (h : Aw s (l.head?.map bare) = false) (h' : Run (q false) l r) : Run ((BU s).bind q) l r := by
 have : Run (BU s) l (.ok (false, l)) := Run.look (by
  show Run (if Aw s (l.head?.map bare) = true then .next (.ret true) else .ret false) _ _
  rw [h]; exact Run.ret _ _)
 exact this.bind h'
theorem CS {β : Type} {s : List UInt8} {q : Unit → G β} {x : Tok} {l : List Tok} {r : Ans β} (h : Aw s (some (bare x)) = true) (h' : Run (q ()) l r) : Run ((B7 s).bind q) (x :: l) r := by
 have : Run (B7 s) (x :: l) (.ok ((), l)) := Run.look (by
  show Run (if Aw s (some (bare x)) = true then .next (.ret ()) else .fail) _ _
  rw [if_pos h]; exact Run.next (Run.ret _ _))
 exact this.bind h'
theorem run_name {β : Type} {q : List UInt8 → G β} {x : Tok} {l : List Tok} {r : Ans β} (hk : x.kind = 1) (hn : BV x.text = true) (h' : Run (q x.text) l r) : Run (nameG.bind q) (x :: l) r := by
 have : Run nameG (x :: l) (.ok (x.text, l)) := Run.look (by
  show Run (if decide (x.kind = 1) && BV x.text then .next (.ret x.text) else .fail) _ _
  rw [if_pos (by simp [hk, hn])]; exact Run.next (Run.ret _ _))
 exact this.bind h'
theorem run_number {β : Type} {q : Int → G β} {x : Tok} {l : List Tok} {r : Ans β} (hk : x.kind = 2) (h' : Run (q (Da x.text)) l r) : Run (numberG.bind q) (x :: l) r := by
 have : Run numberG (x :: l) (.ok (Da x.text, l)) := Run.look (by
  show Run (if decide (x.kind = 2) then .next (.ret (Da x.text)) else .fail) _ _
  rw [if_pos (by simp [hk])]; exact Run.next (Run.ret _ _))
 exact this.bind h'
theorem run_take {β : Type} {tab : List (List UInt8 × Opr)} {q : Option Opr → G β} {x : Tok} {l : List Tok} {o : Opr} {r : Ans β} (h : tab.lookup x.text = some o) (h' : Run (q (some o)) l r) : Run ((takeG tab).bind q) (x :: l) r := by
 have : Run (takeG tab) (x :: l) (.ok (some o, l)) := Run.look (by
  show Run (match tab.lookup x.text with | some p => .next (.ret (some p)) | none => .ret none) _ _
  rw [h]; exact Run.next (Run.ret _ _))
 exact this.bind h'
theorem run_take_no {β : Type} {tab : List (List UInt8 × Opr)} {q : Option Opr → G β} {l : List Tok} {r : Ans β} (h : ∀ x, l.head? = some x → tab.lookup x.text = none) (h' : Run (q none) l r) : Run ((takeG tab).bind q) l r := by
 have : Run (takeG tab) l (.ok (none, l)) := Run.look (by
  cases l with
  | nil => exact Run.ret _ _
  | cons x l =>
   show Run (match tab.lookup x.text with | some p => .next (.ret (some p)) | none => .ret none) _ _
   rw [h x rfl]; exact Run.ret _ _)
 exact this.bind h'
theorem paren {x y : Tok} {A : List Tok} {f : Fml} (r : List Tok) (hx : bare x = (3, [40])) (hy : bare y = (3, [41])) (h : RunN .formula A (.ok (f, []))) : RunN .unary (x :: (A ++ y :: r)) (.ok (f, r)) := by
 have h1 : RunN .formula (A ++ y :: r) (.ok (f, y :: r)) := RunN.stop (S := fmlS) (nt := .formula) (fun nt => good_formula (fun _ h => h) (by rw [hy]; exact stop_close) nt) trivial r h
 have hxt : x.text = [40] := congrArg Prod.snd hx
 have hp : RunN .primary (x :: (A ++ y :: r)) (.ok (f, r)) := by
  refine C7 (by show Aw _ (some (bare x)) = false; rw [hx]; decide) (C7 (by show Aw _ (some (bare x)) = false; rw [hx]; decide) (run_yes (by rw [hx]; decide) ?_))
  exact Run.call h1 (CS (by rw [hy]; decide) (Run.ret _ _))
 refine run_take_no (fun z hz => ?_) (Run.call hp (Run.ret _ _))
 cases hz
 rw [hxt]; decide
theorem up_until {l r : List Tok} {f : Fml} (h : RunN .unary l (.ok (f, r))) (hr : ∀ x, r.head? = some x → infixT.lookup x.text = none) : RunN .untilN l (.ok (f, r)) :=
 Run.call h (run_take_no hr (Run.ret _ _))
theorem up_and {l r : List Tok} {f : Fml} (h : RunN .untilN l (.ok (f, r))) (hr : Aw [38] (r.head?.map bare) = false) : RunN .andN l (.ok (f, r)) :=
 Run.call h (Run.call (show RunN .andL r (.ok ([], r)) from C7 hr (Run.ret _ _)) (Run.ret _ _))
theorem up_or {l r : List Tok} {f : Fml} (h : RunN .andN l (.ok (f, r))) (hr : Aw [124] (r.head?.map bare) = false) : RunN .orN l (.ok (f, r)) :=
 Run.call h (Run.call (show RunN .orL r (.ok ([], r)) from C7 hr (Run.ret _ _)) (Run.ret _ _))
theorem up_imp {l r : List Tok} {f : Fml} (h : RunN .orN l (.ok (f, r))) (hr : Aw [45, 62] (r.head?.map bare) = false) : RunN .formula l (.ok (f, r)) :=
 Run.call h (C7 hr (Run.ret _ _))
end Go.Proofs.YtfcgdbmoncnibaaGreatDoor
namespace Go.Proofs.YtfcgdbmoncnibaaGreatDoor
set_option linter.unusedVariables false
variable {mk : Prop} [MK mk]
inductive ReadL : List UInt8 → List BT → Prop
 | nil : ReadL [] []
 | gap {c : UInt8} {s : List UInt8} {bs : List BT} (h : c = 32 ∨ c = 10) (hr : ReadL s bs) : ReadL (c :: s) bs
 | tok {k : Int} {y s : List UInt8} {bs : List BT} (hy : 1 ≤ y.length) (hs : BQ (y ++ s) 0 [] = .ok (y.length, [⟨k, y, 0⟩])) (hr : ReadL s bs) : ReadL (y ++ s) ((k, y) :: bs)
theorem gap_step1 {c : UInt8} (h : c = 32 ∨ c = 10) (s : List UInt8) (ts : List Tok) : BQ (c :: s) 0 ts = .ok (1, ts) := by
 rcases h with rfl | rfl <;> rfl
theorem ReadL.det {s : List UInt8} {bs : List BT} (h : ReadL s bs) : ∀ {s' bs'}, ReadL s' bs' → s = s' → bs = bs' := by
 induction h with
 | nil =>
  intro s' bs' h' e
  cases h' with
  | nil => rfl
  | gap => cases e
  | tok hy => have := congrArg List.length e.symm; rw [List.length_append] at this; simp only [List.length_nil] at this; omega
 | gap hc hr ih =>
  intro s' bs' h' e
  cases h' with
  | nil => cases e
  | gap _ hr' => cases e; exact ih hr' rfl
  | tok hy hs =>
   rw [← e, gap_step1 hc] at hs
   simp at hs
 | tok hy hs hr ih =>
  intro s' bs' h' e
  cases h' with
  | nil => have := congrArg List.length e; rw [List.length_append] at this; simp only [List.length_nil] at this; omega
  | gap hc hr' =>
   rw [e, gap_step1 hc] at hs
   simp at hs
  | tok hy' hs' hr' =>
   rw [e, hs'] at hs
   simp only [Except.ok.injEq, Prod.mk.injEq, List.cons.injEq, Tok.mk.injEq, and_true] at hs
   obtain ⟨h1, rfl, rfl⟩ := hs
   rw [ih hr' (List.append_cancel_left e)]
theorem step_full {v u : List UInt8} {a1 : Nat} {x : Tok} {ts : List Tok} (h : BQ u 0 [] = .ok (a1, [x])) (hc : ts.length = 2000) : BQ (v ++ u) v.length ts = .error (2, v.length) := by
 unfold BQ at h ⊢
 have hg := getD_sh v u 0
 simp only [Nat.add_zero] at hg
 rw [hg]
 split at h
 ·simp [blankM] at h
 ·simp [commM] at h
 ·rename_i hk
  unfold DZ at h ⊢
  have hw := DB (q := BD) v u 1
  split at h
  ·cases h
  ·rename_i hn
   rw [hw, if_neg (by simp only [Nat.zero_add] at hn; omega)]
   unfold CY
   rw [if_pos hc]
 ·rename_i hk
  unfold DX at h ⊢
  have hb := numBad_sh v u 0
  simp only [Nat.add_zero] at hb
  rw [hb]
  split at h
  ·cases h
  ·rename_i hn
   rw [if_neg hn]
   unfold CY
   rw [if_pos hc]
 ·unfold symM at h ⊢
  have hd := drop_sh v u 0
  simp only [Nat.add_zero, List.drop_zero] at hd
  rw [hd]
  split at h
  ·rename_i y hy
   rw [List.drop_zero] at hy
   rw [hy]
   show CY (v ++ u) v.length ts 3 _ = _
   unfold CY
   rw [if_pos hc]
  ·cases h
 ·cases h
theorem ReadL.scan {s : List UInt8} {bs : List BT} (h : ReadL s bs) : ∀ (v : List UInt8) (ts : List Tok), ts.length ≤ 2000 →
  (∃ us, us.map bare = bs ∧ scanW (v ++ s) v.length ts = .ok ((v ++ s).length, ts ++ us)) ∨ ∃ p, scanW (v ++ s) v.length ts = .error (2, p) := by
 induction h with
 | nil =>
  intro v ts hc
  refine .inl ⟨[], rfl, ?_⟩
  rw [List.append_nil, List.append_nil]; exact scanW_end
 | @gap c s bs hc hr ih =>
  intro v ts hl
  rw [C1 (by simp)]
  have h1 : BQ (v ++ c :: s) v.length ts = .ok (v.length + 1, ts) := by
   have hg := getD_sh v (c :: s) 0
   simp only [Nat.add_zero] at hg
   unfold BQ
   rw [hg]
   rcases hc with rfl | rfl <;> rfl
  rw [h1]
  have := ih (v ++ [c]) ts hl
  simp only [List.append_assoc, List.length_append, List.length_cons, List.length_nil, List.cons_append, List.nil_append] at this ⊢
  exact this
 | @tok k y s bs hy hs hr ih =>
  intro v ts hl
  rw [C1 (by simp; omega)]
  by_cases hf : ts.length = 2000
  ·rw [step_full hs hf]
   exact .inr ⟨_, rfl⟩
  ·have h1 := step_sh (v := v) (ts := ts) (ts' := []) hs (by simp; omega)
   simp only [List.map_nil, List.append_nil, Nat.add_zero, List.map_cons] at h1
   rw [h1]
   have := ih (v ++ y) (ts ++ [shT v.length ⟨k, y, 0⟩]) (by simp; omega)
   simp only [List.append_assoc, List.length_append] at this ⊢
   rcases this with ⟨us, e, h2⟩ | ⟨p, h2⟩
   ·refine .inl ⟨shT v.length ⟨k, y, 0⟩ :: us, by rw [List.map_cons, e]; rfl, ?_⟩
    simpa using h2
   ·exact .inr ⟨p, h2⟩
theorem ReadL.lex {s : List UInt8} {bs : List BT} (h : ReadL s bs) : (∃ us, us.map bare = bs ∧ DK s = .ok us) ∨ ∃ p, DK s = .error (2, p) := by
 by_cases hl : s.length ≤ 6000
 ·rw [lexM_of hl]
  rcases h.scan [] [] (by simp) with ⟨us, e, h1⟩ | ⟨p, h1⟩
  ·simp only [List.nil_append, List.length_nil] at h1
   rw [h1]
   exact .inl ⟨us, e, rfl⟩
  ·simp only [List.nil_append, List.length_nil] at h1
   rw [h1]
   exact .inr ⟨p, rfl⟩
 ·unfold DK
  rw [if_pos (by omega)]
  exact .inr ⟨_, rfl⟩
def folB : Option UInt8 → Bool
 | none => true
 | some c => !(CH c || Ap c || decide (c.toNat = 95))
theorem ReadL.sym {s : List UInt8} {bs : List BT} {y : List UInt8} (hy : 1 ≤ y.length) (hk : ∃ k, C6 (y.getD 0 0) = some (k + 4)) (hf : symsL.find? (Br (y ++ s)) = some y) (h : ReadL s bs) : ReadL (y ++ s) ((3, y) :: bs) := by
 refine .tok hy ?_ h
 obtain ⟨k, hk⟩ := hk
 unfold BQ
 have : (y ++ s).getD 0 0 = y.getD 0 0 := by
  cases y with
  | nil => simp at hy
  | cons c y => rfl
 rw [this, hk]
 show symM _ 0 [] = _
 unfold symM
 rw [List.drop_zero, hf]
 show CY _ 0 [] 3 (0 + y.length) = _
 unfold CY
 rw [if_neg (by simp), Nat.zero_add]
 simp
end Go.Proofs.YtfcgdbmoncnibaaGreatDoor
namespace Go.Proofs.YtfcgdbmoncnibaaGreatDoor
set_option linter.unusedVariables false
variable {mk : Prop} [MK mk]
structure Sty where
 sign : List UInt8
 level : Nat
 first : Nat
 next : Nat
 least : Nat
 most : Nat
 val : Nat
 bound : Nat
 usual : Nat
def many : Nat := 1099511627776
def styL : List (Int × Sty) := [
 (1, ⟨[116, 114, 117, 101], 5, 0, 0, 0, 0, 0, 0, 0⟩),
 (2, ⟨[102, 97, 108, 115, 101], 5, 0, 0, 0, 0, 0, 0, 0⟩),
 (3, ⟨[61], 5, 0, 0, 0, 0, 9999, 0, 1⟩),
 (4, ⟨[33], 4, 4, 0, 1, 1, 0, 0, 0⟩),
 (5, ⟨[32, 38, 32], 2, 3, 3, 2, many, 0, 0, 0⟩),
 (6, ⟨[32, 124, 32], 1, 2, 2, 2, many, 0, 0, 0⟩),
 (7, ⟨[32, 45, 62, 32], 0, 1, 0, 2, 2, 0, 0, 0⟩),
 (8, ⟨[88, 32], 4, 4, 0, 1, 1, 0, 0, 0⟩),
 (9, ⟨[32, 85, 32], 3, 4, 3, 2, 2, 0, 0, 0⟩),
 (10, ⟨[32, 82, 32], 3, 4, 3, 2, 2, 0, 0, 0⟩),
 (11, ⟨[70, 32], 4, 4, 0, 1, 1, 0, 0, 0⟩),
 (12, ⟨[71, 32], 4, 4, 0, 1, 1, 0, 0, 0⟩),
 (13, ⟨[70, 91], 4, 4, 0, 1, 1, 0, 9999, 0⟩),
 (14, ⟨[71, 91], 4, 4, 0, 1, 1, 0, 9999, 0⟩),
 (15, ⟨[89, 32], 4, 4, 0, 1, 1, 1, 0, 0⟩),
 (16, ⟨[32, 83], 3, 4, 3, 2, 2, 9999, 0, 0⟩),
 (17, ⟨[32, 84], 3, 4, 3, 2, 2, 9999, 0, 1⟩),
 (18, ⟨[79, 32], 4, 4, 0, 1, 1, 0, 0, 0⟩),
 (19, ⟨[72, 32], 4, 4, 0, 1, 1, 0, 0, 0⟩)]
def Bc (op : Int) : Option Sty := styL.lookup op
def Bh (op : Int) : Sty := (Bc op).getD ⟨[], 4, 0, 0, 0, 0, 0, 0, 0⟩
def digs (n : Nat) : List UInt8 := if n < 10 then [UInt8.ofNat (48 + n)] else digs (n / 10) ++ [UInt8.ofNat (48 + n % 10)]
def CI (n : Int) : List UInt8 := digs n.toNat
def sgT (op : Int) (nm : List UInt8) (v b : Int) : List UInt8 :=
 if op = 3 then (if v = 1 then nm else nm ++ [61] ++ CI v)
 else if op = 13 ∨ op = 14 then (Bh op).sign ++ CI b ++ [93, 32]
 else if op = 15 then (if v = 0 then [89, 32] else [90, 32])
 else if op = 16 ∨ op = 17 then (if v = ((Bh op).usual : Int) then (Bh op).sign ++ [32] else (Bh op).sign ++ [91] ++ CI v ++ [93, 32])
 else (Bh op).sign
def wrapT (b : Bool) (s : List UInt8) : List UInt8 := if b then [40] ++ (s ++ [41]) else s
mutual
def prF : Nat → Fml → List UInt8
 | n, .mk op nm v b args => wrapT (decide ((Bh op).level < n)) (prA (Bh op).first (Bh op).next (sgT op nm v b) args)
def prA : Nat → Nat → List UInt8 → List Fml → List UInt8
 | _, _, sg, [] => sg
 | first, next, sg, a :: l => (if l.isEmpty then sg else []) ++ (prF first a ++ prR next sg l)
def prR : Nat → List UInt8 → List Fml → List UInt8
 | _, _, [] => []
 | next, sg, a :: l => sg ++ (prF next a ++ prR next sg l)
end
def Cu (op : Int) (nm : List UInt8) (v b : Int) (n : Nat) : Bool := match Bc op with
 | none => false
 | some s => decide (s.least ≤ n ∧ n ≤ s.most ∧ 0 ≤ v ∧ v ≤ (s.val : Int) ∧ 0 ≤ b ∧ b ≤ (s.bound : Int)) && (if op = 3 then BV nm else nm.isEmpty)
mutual
def okF : Fml → Bool
 | .mk op nm v b args => Cu op nm v b args.length && okL args
def okL : List Fml → Bool
 | [] => true
 | a :: l => okF a && okL l
end
def sgK (op : Int) (nm : List UInt8) (v b : Int) : List BT :=
 if op = 1 then [(1, [116, 114, 117, 101])] else if op = 2 then [(1, [102, 97, 108, 115, 101])]
 else if op = 3 then (1, nm) :: (if v = 1 then [] else [(3, [61]), (2, CI v)])
 else if op = 4 then [(3, [33])] else if op = 5 then [(3, [38])] else if op = 6 then [(3, [124])] else if op = 7 then [(3, [45, 62])]
 else if op = 8 then [(1, [88])] else if op = 9 then [(1, [85])] else if op = 10 then [(1, [82])] else if op = 11 then [(1, [70])] else if op = 12 then [(1, [71])]
 else if op = 13 then [(1, [70]), (3, [91]), (2, CI b), (3, [93])] else if op = 14 then [(1, [71]), (3, [91]), (2, CI b), (3, [93])]
 else if op = 15 then (if v = 0 then [(1, [89])] else [(1, [90])])
 else if op = 16 then (1, [83]) :: (if v = 0 then [] else [(3, [91]), (2, CI v), (3, [93])])
 else if op = 17 then (1, [84]) :: (if v = 1 then [] else [(3, [91]), (2, CI v), (3, [93])])
 else if op = 18 then [(1, [79])] else [(1, [72])]
def wrapK (b : Bool) (s : List BT) : List BT := if b then (3, [40]) :: (s ++ [(3, [41])]) else s
mutual
def tkF : Nat → Fml → List BT
 | n, .mk op nm v b args => wrapK (decide ((Bh op).level < n)) (tkA (Bh op).first (Bh op).next (sgK op nm v b) args)
def tkA : Nat → Nat → List BT → List Fml → List BT
 | _, _, sg, [] => sg
 | first, next, sg, a :: l => (if l.isEmpty then sg else []) ++ (tkF first a ++ tkR next sg l)
def tkR : Nat → List BT → List Fml → List BT
 | _, _, [] => []
 | next, sg, a :: l => sg ++ (tkF next a ++ tkR next sg l)
end
theorem CB {n : Nat} (h : n < 10) : digs n = [UInt8.ofNat (48 + n)] := by rw [digs, if_pos h]
theorem digs_big {n : Nat} (h : 10 ≤ n) : digs n = digs (n / 10) ++ [UInt8.ofNat (48 + n % 10)] := by rw [digs, if_neg (by omega)]
theorem dig_byte {k : Nat} (h : k < 10) : (UInt8.ofNat (48 + k)).toNat = 48 + k := by simp; omega
theorem digs_dig : ∀ (m n : Nat), n ≤ m → ∀ c ∈ digs n, Ap c = true
 | 0, n, h, c, hc => by
  rw [CB (by omega)] at hc
  simp only [List.mem_singleton] at hc
  subst hc
  simp only [Ap, dig_byte (show n < 10 by omega)]
  simp; omega
 | m + 1, n, h, c, hc => by
  by_cases h1 : n < 10
  ·rw [CB h1] at hc
   simp only [List.mem_singleton] at hc
   subst hc
   simp only [Ap, dig_byte h1]
   simp; omega
  ·rw [digs_big (by omega)] at hc
   rcases List.mem_append.1 hc with hc | hc
   ·exact digs_dig m (n / 10) (by omega) c hc
   ·simp only [List.mem_singleton] at hc
    subst hc
    simp only [Ap, dig_byte (show n % 10 < 10 by omega)]
    simp; omega
theorem digs_pos (n : Nat) : 1 ≤ (digs n).length := by
 rw [digs]; split <;> simp
theorem digs_len {n : Nat} (h : n ≤ 9999) : (digs n).length ≤ 4 := by
 by_cases h1 : n < 10
 ·rw [CB h1]; simp
 rw [digs_big (by omega)]
 by_cases h2 : n / 10 < 10
 ·rw [CB h2]; simp
 rw [digs_big (by omega)]
 by_cases h3 : n / 10 / 10 < 10
 ·rw [CB h3]; simp
 rw [digs_big (by omega)]
 rw [CB (by omega)]; simp
theorem getD_left {a b : List UInt8} {i : Nat} (h : i < a.length) : (a ++ b).getD i 0 = a.getD i 0 := by
 simp [List.getD_eq_getElem?_getD, List.getElem?_append_left h]
theorem digs_head : ∀ (m n : Nat), n ≤ m → 10 ≤ n → ((digs n).getD 0 0).toNat ≠ 48
 | 0, n, h, h1 => by omega
 | m + 1, n, h, h1 => by
  rw [digs_big h1]
  by_cases h2 : n / 10 < 10
  ·rw [CB h2]
   show (UInt8.ofNat (48 + n / 10)).toNat ≠ 48
   rw [dig_byte h2]; omega
  ·have hp := digs_pos (n / 10)
   have := digs_head m (n / 10) (by omega) (by omega)
   rw [getD_left (by omega)]
   exact this
theorem numOf_digs : ∀ (m n : Nat), n ≤ m → Da (digs n) = (n : Int)
 | 0, n, h => by
  rw [CB (by omega)]
  show 10 * (0 : Int) + (((UInt8.ofNat (48 + n)).toNat : Int) - 48) = _
  rw [dig_byte (by omega)]; omega
 | m + 1, n, h => by
  by_cases h1 : n < 10
  ·rw [CB h1]
   show 10 * (0 : Int) + (((UInt8.ofNat (48 + n)).toNat : Int) - 48) = _
   rw [dig_byte h1]; omega
  ·rw [digs_big (by omega)]
   have ih := numOf_digs m (n / 10) (by omega)
   unfold Da at ih ⊢
   rw [List.foldl_append, ih]
   show 10 * ((n / 10 : Nat) : Int) + (((UInt8.ofNat (48 + n % 10)).toNat : Int) - 48) = _
   rw [dig_byte (by omega)]; omega
theorem numOf_numT {n : Int} (h : 0 ≤ n) : Da (CI n) = n := by
 unfold CI; rw [numOf_digs _ _ (Nat.le_refl _)]; omega
end Go.Proofs.YtfcgdbmoncnibaaGreatDoor
