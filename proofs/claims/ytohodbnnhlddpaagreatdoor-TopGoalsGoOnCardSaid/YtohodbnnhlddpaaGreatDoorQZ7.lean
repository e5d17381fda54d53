/- TopGoalsGoOn, part 7 of 16: rules, lemmas, walks. Conditions: none. -/
import Derived.Test.YtohodbnnhlddpaaGreatDoorQZ6
import Derived.Test.YtohodbnnhlddpaaGreatDoorShc
import Derived.Lib.Builder
import Derived.LaidEql
namespace Go.Proofs.YtohodbnnhlddpaaGreatDoor
open Go.RowKit
set_option linter.unusedVariables false
section
variable {mk : Prop} [MK mk]
structure Form where
 least : Int
 most : Int
 val : Int
 bound : Int
 named : Bool
 past : Bool
 future : Bool
 loose : Bool
def formsL : List Form := [⟨0, 0, 0, 0, false, false, false, false⟩, ⟨0, 0, 0, 0, false, false, false, true⟩, ⟨0, 0, 0, 0, false, false, false, true⟩, ⟨0, 0, 3, 0, true, false, false, true⟩, ⟨1, 1, 0, 0, false, false, false, true⟩,
 ⟨2, 1099511627776, 0, 0, false, false, false, true⟩, ⟨2, 1099511627776, 0, 0, false, false, false, true⟩, ⟨2, 2, 0, 0, false, false, false, false⟩, ⟨1, 1, 0, 0, false, false, true, true⟩, ⟨2, 2, 0, 0, false, false, true, true⟩,
 ⟨2, 2, 0, 0, false, false, true, true⟩, ⟨1, 1, 0, 0, false, false, true, false⟩, ⟨1, 1, 0, 0, false, false, true, false⟩, ⟨1, 1, 0, 9, false, false, true, false⟩, ⟨1, 1, 0, 9, false, false, true, false⟩,
 ⟨1, 1, 1, 0, false, true, false, true⟩, ⟨2, 2, 1, 0, false, true, false, true⟩, ⟨2, 2, 1, 0, false, true, false, true⟩, ⟨1, 1, 0, 0, false, true, false, false⟩, ⟨1, 1, 0, 0, false, true, false, false⟩]
def Bl (x : Form) : LV := [iV x.least, iV x.most, iV x.val, iV x.bound, .bool x.named, .bool x.past, .bool x.future, .bool x.loose]
def formC : LV := formsL.flatMap Bl
def GF (w : World) : Prop := Cells w 2 0 formC
theorem GF.E {X : List Nat} {w w' : World} (h : GF w) (k : Keep X w w') (a : ∀ x ∈ X, 10 ≤ x) : GF w' := Cells.E h k (fun V => by have := a _ V; revert this; decide)
theorem GF.ext {w w' : World} (h : GF w) (k : Ext w w') : GF w' := h.E k fun x V => by cases V
def zeroForm : Form := ⟨0, 0, 0, 0, false, false, false, false⟩
def isOpB (n : Int) : Bool := decide (1 ≤ n) && decide (n < 20)
def BJ (n : Int) : Form := if isOpB n then formsL.getD n.toNat zeroForm else zeroForm
theorem formC_at : ∀ (l : List Form) (k i : Nat) (x : Form) (u : Value), l[k]? = some x → (Bl x)[i]? = some u → (l.flatMap Bl)[k * 8 + i]? = some u
 | [], _, _, _, _, h, _ => by simp at h
 | y :: l, 0, i, x, u, h, hu => by
  obtain rfl : y = x := by simpa using h
  rw [List.flatMap_cons, Nat.zero_mul, Nat.zero_add, List.getElem?_append_left (List.getElem?_eq_some_iff.1 hu).1, hu]
 | y :: l, k + 1, i, x, u, h, hu => by
  have := formC_at l k i x u Dy hu;rw [List.flatMap_cons, List.getElem?_append_right (by simp [Bl]; omega), show (k + 1) * 8 + i - (Bl y).length = k * 8 + i by simp [Bl]; omega, this]
theorem formC_one (x : Form) : oneC (Bl x) := by
 intro u r;simp [Bl] at r;rcases r with rfl | rfl | rfl | rfl | rfl | rfl | rfl | rfl <;> rfl
theorem formOf_ok (w : World) (n : Int) (D : GF w) : Fn Zp 132 [iV n] w fun v w' => v = .tuple #[.agg (Bl (BJ n)).toArray, .bool (isOpB n)] ∧ Ext w w' := by
 refine AG Tryz.func132 rfl Tryz.ntmps132 ?_;repeat refine nx rfl ?_
 (refine AJ ?_; refine AQ (fun Q E => ?_))
 have a : Blk Q w.heap.size 190 (Bl zeroForm) := E.D;have X := E.E;refine Ac (AP rfl ?_);repeat refine nx rfl ?_
 by_cases G : 1 ≤ n ∧ n < 20
 ·have S : isOpB n = true := by simp [isOpB, G]
  obtain ⟨k, rfl⟩ : ∃ k : Nat, n = (k : Int) := ⟨n.toNat, by omega⟩;obtain ⟨x, V⟩ : ∃ x, formsL[k]? = some x := ⟨_, List.getElem?_eq_getElem (by show k < 20; omega)⟩;have A : BJ (k : Int) = x := by unfold BJ; rw [if_pos S]; simp [List.getD_eq_getElem?_getD, V]
  have o : Cells Q 2 (0 + (k : Int).toNat * 8) (Bl x) := by
   intro i u r;have := (D.ext X) (k * 8 + i) u (formC_at formsL k i x u V r);rw [Nat.add_assoc]; exact this
  rw [S, A];refine AJ (Af rfl (W_lssF rfl rfl U (AP rfl (AS rfl (Af rfl (AS rfl (W_geqF rfl rfl U (Au rfl (AP rfl ?_)))))))));repeat first | refine nx rfl ?_ | refine nf rfl ?_
  refine AJ (Af rfl ?_);refine Da rfl rfl U U ?_;refine AR (L := Bl x) rfl rfl o ?_;refine AE (cs := Bl x) rfl rfl rfl (formC_one x) a (by simp [Bl]) (fun b s => ?_);refine Ac (AP rfl ?_);repeat refine nx rfl ?_
  exact Bm (L := Bl x) rfl rfl rfl s.D.cells ⟨rfl, X.E s.E O⟩
 ·have S : isOpB n = false := by simp [isOpB]; omega
  have A : BJ n = zeroForm := by unfold BJ; rw [if_neg (by simp [S])]
  rw [S, A];(refine AJ (Af rfl ?_) <;> (refine W_lss rfl rfl (fun T => ?_) (fun T => ?_) <;> try omega) <;> refine AP rfl ?_ <;> (first | refine Ax rfl ?_ | (refine AS rfl ?_; refine Af rfl ?_)) <;> (first | refine Ax rfl ?_ | (refine AS rfl ?_; refine W_geqT rfl rfl U ?_)) <;> ((first | refine A4 rfl ?_ | refine Au rfl ?_); refine AP rfl ?_) <;> refine AH ?_)
  all_goals
   repeat refine nx rfl ?_
   refine AJ (Bo Dn Dn ?_);refine AE (cs := Bl zeroForm) rfl rfl rfl (formC_one _) a (by simp [Bl]) (fun b s => go ?_);exact Bm (L := Bl zeroForm) rfl rfl rfl s.D.cells ⟨rfl, X.E s.E O⟩
abbrev Nd := Fml × Bool
mutual
def DW (i : Bool) : Fml → List Nd
 | .mk op nm v b args => (.mk op nm v b args, i) :: C8 (i || (BJ op).past) args
def C8 (i : Bool) : LF → List Nd
 | [] => []
 | f :: l => DW i f ++ C8 i l
end
theorem preF_eq (i : Bool) (f : Fml) : DW i f = (f, i) :: C8 (i || (BJ f.op).past) f.args := by cases f; simp [DW, Fml.args, Fml.op]
theorem preL_app (i : Bool) : ∀ l m : LF, C8 i (l ++ m) = C8 i l ++ C8 i m
 | [], m => rfl
 | f :: l, m => by simp [C8, preL_app i l m]
theorem preL_take (i : Bool) {l : LF} {k : Nat} {x : Fml} (h : l[k]? = some x) : C8 i (l.take (k + 1)) = C8 i (l.take k) ++ DW i x := by
 rw [List.take_add_one, h, Option.toList_some, preL_app]; simp [C8]
structure NodesR (yv : Value) (X : List Nat) (B : Nat) (P : List Nd) (J D : List Nd → World → Prop) : Prop where
 fn : ∃ y, yv = .func (.yield y) #[] #[]
 glob : ∀ x ∈ X, 10 ≤ x
 E : ∀ {L : List Nd} {W W' : World} {Y : List Nat}, J L W → Keep Y W W' → (∀ y ∈ Y, B ≤ y) → J L W'
 step : ∀ {L : List Nd} {W : World} {b o : Nat} {f : Fml} {i : Bool}, J L W → PF (fun b => b ∉ X ∧ b < B) W b o f → L ++ [(f, i)] <+: P → YldP Zp yv [.pointer (some ⟨b, o, none⟩), .bool i] W (fun v W' => Keep X W W' ∧ ((v = .bool true ∧ J (L ++ [(f, i)]) W') ∨ (v = .bool false ∧ D (L ++ [(f, i)]) W'))) fun _ _ => False
theorem PF.opc {ok : Nat → Prop} {w : World} {b o : Nat} {f : Fml} (h : PF ok w b o f) : w.cell? ⟨b, o + 0, none⟩ = some (iV f.op) := by
 obtain ⟨_, a, c, L, T, _⟩ := h.form;exact T 0 _ rfl
theorem PF.arg {ok : Nat → Prop} {w : World} {b o : Nat} {f : Fml} (h : PF ok w b o f) : ∃ a c, f.args.length ≤ 9223372036854775807 ∧ w.cell? ⟨b, o + 4, none⟩ = some (.slice a f.args.length c) ∧ ∀ (k : Nat) (x : Fml), f.args[k]? = some x → ∃ r p, a = some ⟨r, p, none⟩ ∧ PF ok w r (p + k * 5) x := by
 obtain ⟨_, a, c, L, T, e, X, W, R⟩ := h.form;refine ⟨a, c, by obtain ⟨_, _, q, g, i, _⟩ := id e; cases q; omega, T 4 _ rfl, fun k x V => ?_⟩;have y : k < f.args.length := (List.getElem?_eq_some_iff.1 V).1;obtain ⟨d, C⟩ : ∃ d, L[k]? = some d := ⟨_, List.getElem?_eq_getElem U⟩;obtain ⟨r, p, rfl, S, G⟩ := e.fml W C y;exact ⟨r, p, rfl, S, d, W d (List.mem_of_getElem? C), G, R k d x C V⟩
theorem NodesR.ext {S : Value} {X : List Nat} {B : Nat} {P : List Nd} {a D : List Nd → World → Prop} (H : NodesR S X B P a D) {L : List Nd} {W x : World} (h : a L W) (k : Ext W x) : a L x := H.E h k fun _ h => by cases h
theorem visit_ok {yv : Value} {X : List Nat} {B : Nat} {P : List Nd} {s D : List Nd → World → Prop} (H : NodesR yv X B P s D) (Z j T : Nat) (h4 : j ∉ X) (z : T ∉ X) : ∀ (n : Nat) (w : World) (b o : Nat) (f : Fml) (i : Bool) (d : Nat) (L : List Nd), dpF f ≤ n → d + n ≤ 5000 → PF (fun b => b ∉ X ∧ b < B) w b o f → GF w →
  Blk w j 231 [yv] → Blk w T 235 [.func (.func 179) #[] #[pt Z, pt j, pt T]] → s L w → L ++ DW i f <+: P →
  Fn Zp 179 [.pointer (some ⟨b, o, none⟩), .bool i, iV d, pt Z, pt j, pt T] w fun v w' => Keep X w w' ∧ ((v = .bool true ∧ s (L ++ DW i f) w') ∨ (v = .bool false ∧ ∃ M, M <+: DW i f ∧ M ≠ [] ∧ D (L ++ M) w')) := by
 intro n
 induction n with
 | zero => intro w b o f i d L hn; rw [BP] at hn; omega
 | succ n ih =>
 intro w b o f i d L hn hd hf hG b4 b5 hJ hP;rw [BP] at hn;obtain ⟨y, rfl⟩ := H.fn;refine AG Tryz.func179 rfl Tryz.ntmps179 (go ?_);refine W_yield rfl rfl (H.step hJ hf (((List.prefix_append_right_inj L).2 (by rw [preF_eq]; exact ⟨_, rfl⟩)).trans hP)) ?_;rintro _ w1 ⟨q, G⟩;rcases G with ⟨rfl, b8⟩ | ⟨rfl, A⟩
 case inr =>
  refine go ?_;exact AA rfl ⟨q, .inr ⟨rfl, [(f, i)], by rw [preF_eq]; exact ⟨_, rfl⟩, by simp, A⟩⟩
 have hf1 := hf.E q (fun _ h => h.1);have b1 := hG.E q H.glob;have b6 := b4.E q h4;have b7 := b5.E q z;refine go ?_;have c3 := hf1.opc;refine go ?_;refine AC (formOf_ok w1 f.op b1) rfl ?_;rintro _ w2 ⟨rfl, k2⟩;refine go ?_;refine An (cs := Bl (BJ f.op)) rfl rfl Dn (formC_one _) (fun u n3 => go ?_);have g := k2.trans n3.E;have b3 := n3.D;have a6 := hf1.E g (fun _ _ => by simp);have b2 := b1.ext g;have a9 := b6.E g O;have b0 := b7.E g O;have k13 : Keep X w u := q.ext g;have hJ3 := H.ext b8 g;obtain ⟨a3, c0, c1, c2, _⟩ := a6.arg;cases i with
 | true =>
  refine go ?_;refine Ah (α := Nat) (fun k => [(0, .pointer (some ⟨b, o, none⟩)), (1, .bool true), (2, iV (d : Int)), (5, pt T), (43, iV (f.args.length : Int)), (44, iV (k : Int))]) (fun k W => k ≤ f.args.length ∧ Keep X w W ∧ Ext u u ∧ s (L ++ ((f, true) :: C8 true (f.args.take k))) W ∧ GF W ∧ PF (fun b => b ∉ X ∧ b < B) W b o f ∧ Blk W j 231 [.func (.yield y) #[] #[]] ∧ Blk W T 235 [.func (.func 179) #[] #[pt Z, pt j, pt T]]) (fun k => f.args.length - k) 0 ⟨rfl, rfl, rfl, rfl, rfl, rfl, trivial⟩ ⟨by omega, k13, Ext.refl _, by simpa [C8] using hJ3, b2, a6, a9, b0⟩ ?_;rintro k W fr ⟨hk, I, _, m, E, C, t, l⟩;refine go ?_;by_cases F : k < f.args.length
  ·refine go ?_;obtain ⟨x, c⟩ : ∃ x, f.args[k]? = some x := ⟨_, List.getElem?_eq_getElem F⟩;obtain ⟨aa, cc, _, hargs, a5⟩ := C.arg;obtain ⟨r, p, rfl, a8⟩ := a5 k x c
   have a7 : f.args = f.args.take k ++ x :: f.args.drop (k + 1) := by
    exact FY
   have S : C8 true f.args = C8 true (f.args.take k) ++ (DW true x ++ C8 true (f.args.drop (k + 1))) := by
    conv => lhs; rw [a7, preL_app]
    simp [C8]
   have a2 : (L ++ ((f, true) :: C8 true (f.args.take k))) ++ DW true x <+: P := by
    refine List.IsPrefix.trans ?_ hP;rw [preF_eq true f, List.append_assoc, List.prefix_append_right_inj];show _ <+: (f, true) :: C8 true f.args;rw [S, List.cons_append, List.prefix_cons_inj, List.prefix_append_right_inj];exact List.prefix_append _ _
   have a4 : dpF x ≤ n := by have := Ba (List.mem_of_getElem? c); omega
   refine AW (rd 0 10 (.alt 10 (.read 11 .done) .stop)) Al Dk (fun K N ed => ⟨Keep X K, ?_, ?_⟩)
   ·exact Ep
   have ca : ∀ V, Keep X K V → V.cell? ⟨T, 0, none⟩ = some (.func (.func 179) #[] #[pt Z, pt j, pt T]) := fun V e => ((l.E N O).E e z).cell rfl;have cb : ∀ V, Keep X K V → V.cell? ⟨b, o + 4, none⟩ = some (.slice (some ⟨r, p, none⟩) f.args.length cc) := fun V e => e.cell (N.cell hargs O) C.1.1;(refine D_R rfl rfl (fun W a => AM rfl (ca W a) Z3) (D_R rfl rfl (fun W a => Ag rfl Z3) (D_R rfl rfl (fun W a => AK rfl Z3) (D_R rfl rfl (fun W a => AF rfl Z3) (D_R rfl rfl (fun W a => AM rfl (cb W a) Z3) (D_R rfl rfl (fun W a => Af rfl Z3) (D_R rfl rfl (fun W a => C5 rfl rfl rfl U Z3) (D_R rfl rfl (fun W a => AP rfl Z3) (D_R rfl rfl (fun W a => Af rfl Z3) ?_)))))))) <;> (apply D_R rfl rfl; (intro W a; refine W_add rfl rfl Du ?_; exact Z3)))
   refine D_E rfl ?_;refine Av (v1 := []) (v2 := [pt Z, pt j, pt T]) (vs := [.pointer (some ⟨r, p + k * 5, none⟩), .bool true, iV ((d : Int) + 1)]) rfl (ih K r (p + k * 5) x true (d + 1) _ a4 U (a8.E N (fun _ _ => by simp)) (E.ext N) (t.E N O) (l.E N O) (H.ext m N) a2) rfl ?_;rintro _ w4 ⟨R, G⟩;refine AH ⟨Keep X K, fun _ e => e, R, ?_⟩;have Q : Keep X w w4 := (I.ext N).trans R (fun _ c _ => c);rcases G with ⟨rfl, a0⟩ | ⟨rfl, M, a1, b9, A⟩
   ·refine go ?_;refine ⟨k + 1, ⟨rfl, ⟨rfl, rfl, rfl, rfl, rfl, ?_, trivial⟩, ⟨by omega, Q, Ext.refl _, ?_, (E.ext N).E R H.glob, (C.E N (fun _ _ => by simp)).E R (fun _ h => h.1), (t.E N O).E R h4, (l.E N O).E R z⟩⟩, by omega⟩
    ·show iV ((k : Int) + 1) = _;rw [Int.natCast_add]; rfl
    ·rw [preL_take _ c]; simpa using a0
   ·refine go ?_;refine AA rfl ⟨Q, .inr ⟨rfl, (f, true) :: C8 true (f.args.take k) ++ M, ?_, by simp, by simpa using A⟩⟩;rw [preF_eq];show _ <+: (f, true) :: C8 true f.args;exact Fd
  ·refine go ?_;rw [List.take_of_length_le U] at m;refine AA rfl ⟨I, .inl ⟨rfl, by rw [preF_eq]; exact m⟩⟩
 | false =>
  refine go ?_;refine Ah (α := Nat) (fun k => [(0, .pointer (some ⟨b, o, none⟩)), (1, .bool (BJ f.op).past), (2, iV (d : Int)), (5, pt T), (43, iV (f.args.length : Int)), (44, iV (k : Int))]) (fun k W => k ≤ f.args.length ∧ Keep X w W ∧ Ext u u ∧ s (L ++ ((f, false) :: C8 (BJ f.op).past (f.args.take k))) W ∧ GF W ∧ PF (fun b => b ∉ X ∧ b < B) W b o f ∧ Blk W j 231 [.func (.yield y) #[] #[]] ∧ Blk W T 235 [.func (.func 179) #[] #[pt Z, pt j, pt T]]) (fun k => f.args.length - k) 0 ⟨rfl, rfl, rfl, rfl, rfl, rfl, trivial⟩ ⟨by omega, k13, Ext.refl _, by simpa [C8] using hJ3, b2, a6, a9, b0⟩ ?_;rintro k W fr ⟨hk, I, _, m, E, C, t, l⟩;refine go ?_;by_cases F : k < f.args.length
  ·refine go ?_;obtain ⟨x, c⟩ : ∃ x, f.args[k]? = some x := ⟨_, List.getElem?_eq_getElem F⟩;obtain ⟨aa, cc, _, hargs, a5⟩ := C.arg;obtain ⟨r, p, rfl, a8⟩ := a5 k x c
   have a7 : f.args = f.args.take k ++ x :: f.args.drop (k + 1) := by
    exact FY
   have S : C8 (BJ f.op).past f.args = C8 (BJ f.op).past (f.args.take k) ++ (DW (BJ f.op).past x ++ C8 (BJ f.op).past (f.args.drop (k + 1))) := by
    conv => lhs; rw [a7, preL_app]
    simp [C8]
   have a2 : (L ++ ((f, false) :: C8 (BJ f.op).past (f.args.take k))) ++ DW (BJ f.op).past x <+: P := by
    refine List.IsPrefix.trans ?_ hP;rw [preF_eq false f, List.append_assoc, List.prefix_append_right_inj];show _ <+: (f, false) :: C8 (BJ f.op).past f.args;rw [S, List.cons_append, List.prefix_cons_inj, List.prefix_append_right_inj];exact List.prefix_append _ _
   have a4 : dpF x ≤ n := by have := Ba (List.mem_of_getElem? c); omega
   refine AW (rd 0 10 (.alt 10 (.read 11 .done) .stop)) Al Dk (fun K N ed => ⟨Keep X K, ?_, ?_⟩)
   ·exact Ep
   have ca : ∀ V, Keep X K V → V.cell? ⟨T, 0, none⟩ = some (.func (.func 179) #[] #[pt Z, pt j, pt T]) := fun V e => ((l.E N O).E e z).cell rfl;have cb : ∀ V, Keep X K V → V.cell? ⟨b, o + 4, none⟩ = some (.slice (some ⟨r, p, none⟩) f.args.length cc) := fun V e => e.cell (N.cell hargs O) C.1.1;(refine D_R rfl rfl (fun W a => AM rfl (ca W a) Z3) (D_R rfl rfl (fun W a => Ag rfl Z3) (D_R rfl rfl (fun W a => AK rfl Z3) (D_R rfl rfl (fun W a => AF rfl Z3) (D_R rfl rfl (fun W a => AM rfl (cb W a) Z3) (D_R rfl rfl (fun W a => Af rfl Z3) (D_R rfl rfl (fun W a => C5 rfl rfl rfl U Z3) (D_R rfl rfl (fun W a => AP rfl Z3) (D_R rfl rfl (fun W a => Af rfl Z3) ?_)))))))) <;> (apply D_R rfl rfl; (intro W a; refine W_add rfl rfl Du ?_; exact Z3)))
   refine D_E rfl ?_;refine Av (v1 := []) (v2 := [pt Z, pt j, pt T]) (vs := [.pointer (some ⟨r, p + k * 5, none⟩), .bool (BJ f.op).past, iV ((d : Int) + 1)]) rfl (ih K r (p + k * 5) x (BJ f.op).past (d + 1) _ a4 U (a8.E N (fun _ _ => by simp)) (E.ext N) (t.E N O) (l.E N O) (H.ext m N) a2) rfl ?_;rintro _ w4 ⟨R, G⟩;refine AH ⟨Keep X K, fun _ e => e, R, ?_⟩;have Q : Keep X w w4 := (I.ext N).trans R (fun _ c _ => c);rcases G with ⟨rfl, a0⟩ | ⟨rfl, M, a1, b9, A⟩
   ·refine go ?_;refine ⟨k + 1, ⟨rfl, ⟨rfl, rfl, rfl, rfl, rfl, ?_, trivial⟩, ⟨by omega, Q, Ext.refl _, ?_, (E.ext N).E R H.glob, (C.E N (fun _ _ => by simp)).E R (fun _ h => h.1), (t.E N O).E R h4, (l.E N O).E R z⟩⟩, by omega⟩
    ·show iV ((k : Int) + 1) = _;rw [Int.natCast_add]; rfl
    ·rw [preL_take _ c]; simpa using a0
   ·refine go ?_;refine AA rfl ⟨Q, .inr ⟨rfl, (f, false) :: C8 (BJ f.op).past (f.args.take k) ++ M, ?_, by simp, by simpa using A⟩⟩;rw [preF_eq];show _ <+: (f, false) :: C8 (BJ f.op).past f.args;exact Fd
  ·refine go ?_;rw [List.take_of_length_le U] at m;refine AA rfl ⟨I, .inl ⟨rfl, by rw [preF_eq]; exact m⟩⟩
theorem madePut : (madeCells (Value.agg #[.pointer none, .bool false]).cells (1 * 2)).toList = [.pointer none, .bool false] := by kernel_rfl
theorem nodesIt_ok {yv : Value} {X : List Nat} {m D : List Nd → World → Prop} (w : World) (i b o : Nat) (f : Fml) (H : NodesR yv X w.heap.size (DW false f) m D) (b4 : Blk w i 96 [.pointer (some ⟨b, o, none⟩)]) (I : PF (fun b => b ∉ X ∧ b < w.heap.size) w b o f) (q : GF w) (hN : 10 ≤ w.heap.size) (hd : dpF f ≤ 5000) (g : m [] w) (hX : ∀ x ∈ X, x < w.heap.size) :
  Fn Zp 178 [yv, pt i] w fun _ w' => Keep X w w' ∧ (m (DW false f) w' ∨ ∃ M, M <+: DW false f ∧ M ≠ [] ∧ D M w') := by
 have r : ∀ {c : Nat}, w.heap.size ≤ c → c ∉ X := fun h V => by have := hX _ V; omega
 have hy := H.fn;obtain ⟨y, rfl⟩ := hy;refine AG Tryz.func178 rfl Tryz.ntmps178 (go ?_);refine Aj (L := [.func (.yield y) #[] #[]]) rfl (fun Q E => go ?_);have c1 : Q.cell? ⟨i, 0, none⟩ = some (.pointer (some ⟨b, o, none⟩)) := (b4.E E.E O).cell rfl;refine go ?_;refine AL (out := [.pointer (some ⟨b, o, none⟩), .bool false]) rfl U (by rw [madePut]; rfl) (fun d z => ?_);refine AQ (fun w3 e => ?_);refine AN (v := .slice (sm Q.heap.size) 1 1) rfl rfl rfl e.D O (fun p A => go ?_);refine AQ (fun w5 K => go ?_);refine AN (v := .func (.func 179) #[] #[pt d.heap.size, pt w.heap.size, pt p.heap.size]) rfl rfl rfl K.D O (fun j B => go ?_);have z1 := E.size;have z2 := z.size;have z3 := e.size;have z4 := A.size;have z5 := K.size;have z6 := B.size;have b7 : Ext d p := e.E.E A.E O;have a2 : Ext p j := K.E.E B.E O;have a1 := b7.trans a2;have a0 := z.E.trans a1;have S : Ext w j := E.E.trans a0;have l : Blk j w.heap.size 231 [.func (.yield y) #[] #[]] := E.D.E a0 O;have T : Blk j Q.heap.size 233 [.pointer (some ⟨b, o, none⟩), .bool false] := z.D.E a1 O;have t : Blk j d.heap.size 234 [.slice (sm Q.heap.size) 1 1] := A.D.E a2 O;have n : Blk j p.heap.size 235 [.func (.func 179) #[] #[pt d.heap.size, pt w.heap.size, pt p.heap.size]] := B.D;have x4 : w.heap.size ∉ X := r (Nat.le_refl _);have xp : Q.heap.size ∉ X := r U;have x3 : d.heap.size ∉ X := r U;have x5 : p.heap.size ∉ X := r U;replace q := q.ext S;replace I := I.E S (fun _ _ => by simp);replace g := H.ext g S;clear c1 E z e A K B
 refine Ah (α := Nat) (fun k => [(3, pt d.heap.size), (4, pt p.heap.size)]) (fun k W => k ≤ 1 ∧ Keep X w W ∧ (k = 1 → m [] W) ∧ (k = 0 → m (DW false f) W) ∧ GF W ∧ PF (fun b => b ∉ X ∧ b < w.heap.size) W b o f ∧ Blk W d.heap.size 234 [.slice (sm Q.heap.size) k 1] ∧
  Blk W Q.heap.size 233 [.pointer (some ⟨b, o, none⟩), .bool false] ∧ Blk W w.heap.size 231 [.func (.yield y) #[] #[]] ∧ Blk W p.heap.size 235 [.func (.func 179) #[] #[pt d.heap.size, pt w.heap.size, pt p.heap.size]]) (fun k => k) 1 ⟨rfl, rfl, trivial⟩
  ⟨by omega, S.any, fun _ => g, fun h => by omega, q, I, t, T, l, n⟩ ?_
 clear t T l n q I g;rintro k W fr ⟨hk, kW, a9, a8, a7, b5, t, T, l, n⟩;refine go ?_;by_cases b6 : k = 0
 ·subst b6;refine go ?_;exact BF rfl ⟨kW, .inl (a8 rfl)⟩
 obtain rfl : k = 1 := by omega
 refine go ?_;refine An (cs := [.pointer (some ⟨b, o, none⟩), .bool false]) rfl rfl Dn (AU rfl) (fun w7 u => go ?_);have l3 := t.lt;have a4 := t.E u.E O;have z7 := u.size;refine go ?_;refine AN (v := .slice (sm Q.heap.size) 0 1) rfl rfl rfl a4 O (fun s C => go ?_);have R := u.D.E C.E Dl;have N : Keep [d.heap.size] W s := (u.E.mono (fun _ h => by cases h)).trans C.E (fun _ h _ => h);have b9 : w.heap.size ≠ d.heap.size := by omega
 have c0 : p.heap.size ≠ d.heap.size := by omega
 have a6 := T.E N Dl;have F := l.E N Dl;have G := n.E N Dl;have P := a7.E N (fun x V => by simp at V; omega);have Z := b5.E N (fun x V => by have := V.2; simp; omega);have b0 := H.E (a9 rfl) N (fun x V => by simp at V; omega);have b8 : Keep X w s := kW.trans N (fun x V h => by simp at V; omega);have e0 : s.cell? ⟨W.heap.size, 0 + 0, none⟩ = some (.pointer (some ⟨b, o, none⟩)) := R.cell rfl;have e1 : s.cell? ⟨W.heap.size, 0 + 1, none⟩ = some (.bool false) := R.cell rfl;refine go ?_;refine Av (v1 := []) (v2 := [pt d.heap.size, pt w.heap.size, pt p.heap.size]) (vs := [.pointer (some ⟨b, o, none⟩), .bool false, iV 0]) rfl (visit_ok H d.heap.size w.heap.size p.heap.size x4 x5 (dpF f) s b o f false 0 [] (Nat.le_refl _) U Z P F G b0 O) rfl ?_;rintro _ w9 ⟨a, hr⟩;have a5 := C.D.E a x3;have a3 : Keep X w w9 := b8.trans a (fun _ h _ => h);rcases hr with ⟨rfl, b1⟩ | ⟨rfl, M, b2, b3, hD⟩
 ·refine go ?_;refine ⟨0, ⟨rfl, ⟨rfl, rfl, trivial⟩, ⟨by omega, a3, fun h => by omega, fun _ => by simpa using b1, P.E a H.glob, Z.E a (fun _ h => h.1), a5, a6.E a xp, F.E a x4, G.E a x5⟩⟩, by omega⟩
 ·refine go ?_;exact fin_ret0 rfl ⟨a3, .inr ⟨M, b2, b3, by simpa using hD⟩⟩
theorem nodes_ok (w : World) (b o : Nat) : Fn Zp 131 [.pointer (some ⟨b, o, none⟩)] w fun v w' => v = .func (.func 178) #[] #[pt w.heap.size] ∧ New w w' 96 [.pointer (some ⟨b, o, none⟩)] := by
 refine AG Tryz.func131 rfl Tryz.ntmps131 (go ?_);refine Aj (L := [.pointer (some ⟨b, o, none⟩)]) rfl (fun Q E => go ?_);exact AA rfl ⟨rfl, E⟩
theorem szL_app : ∀ l m : LF, szL (l ++ m) = szL l + szL m
 | [], m => by simp [szL]
 | f :: l, m => by simp only [List.cons_append, szL, szL_app l m]; omega
theorem szL_take {l : LF} {k : Nat} {x : Fml} (h : l[k]? = some x) : szL (l.take (k + 1)) = szL (l.take k) + szF x := by
 rw [List.take_add_one, h, Option.toList_some, szL_app]; simp [szL]
theorem szL_take_le (l : LF) (k : Nat) : szL (l.take k) ≤ szL l := by
 conv => rhs; rw [← List.take_append_drop k l, szL_app]
 omega
theorem dpL_le_iff {n : Nat} : ∀ {l : LF}, dpL l ≤ n ↔ ∀ a ∈ l, dpF a ≤ n
 | [] => by simp [dpL]
 | c :: l => by simp only [dpL, List.mem_cons, forall_eq_or_imp, ← dpL_le_iff (l := l)]; omega
abbrev fitsV (E Z : Nat) : Value := .func (.func 130) #[] #[pt E, pt Z]
theorem fits_ok (E Z : Nat) (s : Z ≠ E) : ∀ (D : Nat) (w : World) (b o : Nat) (f : Fml) (S : Nat), D ≤ 1000 → S ≤ 1000 → PF (fun b => b ≠ E) w b o f → Blk w E 3 [iV S] → Blk w Z 185 [fitsV E Z] →
  Fn Zp 130 [.pointer (some ⟨b, o, none⟩), iV D, pt E, pt Z] w fun v w' => Keep [E] w w' ∧ ((szF f ≤ S ∧ dpF f ≤ D ∧ v = .bool true ∧ Blk w' E 3 [iV (S - szF f : Nat)]) ∨ (¬ (szF f ≤ S ∧ dpF f ≤ D) ∧ v = .bool false)) := by
 intro D
 induction D with
 | zero =>
  intro w b o f S L P I c t;refine AG Tryz.func130 rfl Tryz.ntmps130 (go ?_);refine AN (v := iV ((S : Int) - 1)) rfl rfl rfl c O (fun w1 r => go ?_);replace c := r.D;replace t := t.E r.E (by simpa using s);replace I := I.E r.E (fun b q => by simpa using q);obtain ⟨m, C, _, i, M⟩ := I.arg;refine AW (rd 0 11 .done) Al Dk (fun K N z => ⟨Ext K, ?_, ?_⟩)
  ·exact EZ
  have g : ∀ V, Ext K V → V.cell? ⟨E, 0, none⟩ = some (iV ((S : Int) - 1)) := fun V e => (Blk.E c (N.trans e) O).cell rfl;have j : ∀ V, Ext K V → V.cell? ⟨b, o + 4, none⟩ = some (.slice m f.args.length C) := fun V e => (N.trans e).cell i O;(refine D_R rfl rfl (fun W B => AM rfl (g W B) Z3) (D_R rfl rfl (fun W B => Ag rfl Z3) (D_R rfl rfl (fun W B => AK rfl Z3) (D_R rfl rfl (fun W B => AF rfl Z3) (D_R rfl rfl (fun W B => AM rfl (j W B) Z3) (D_R rfl rfl (fun W B => CD rfl Z3) ?_))))) <;> (refine D_lss rfl rfl rfl rfl (fun X => ?_) (fun X => ?_) <;> try omega) <;> refine D_R rfl rfl (fun W B => AP rfl Z3) ?_ <;> (first | refine BI rfl rfl rfl rfl ?_ | (apply D_R rfl rfl; (intro W B; (refine AS rfl ?_; refine Af rfl ?_); exact AH ⟨rfl, rfl, rfl⟩))) <;> (first | refine BI rfl rfl rfl rfl ?_ | refine D_lssT rfl rfl rfl rfl U ?_) <;> (apply D_R rfl rfl; (intro W B; ((first | refine A4 rfl ?_ | refine Au rfl ?_); refine AP rfl ?_); exact Z3)) <;> refine Cb ?_)
  all_goals
   refine go ?_;exact AA rfl ⟨(r.E.trans N.any (fun _ h _ => h)), .inr ⟨by rw [BP]; omega, rfl⟩⟩
 | succ n ih =>
  intro w b o f S L P I c t;rw [Bd, BP];refine AG Tryz.func130 rfl Tryz.ntmps130 (go ?_);refine AN (v := iV ((S : Int) - 1)) rfl rfl rfl c O (fun w1 r => go ?_);replace c := r.D;replace t := t.E r.E (by simpa using s);replace I := I.E r.E (fun b q => by simpa using q);obtain ⟨m, C, _, i, M⟩ := I.arg;have a7 := Bv f.args;by_cases a6 : (S : Int) - 1 < f.args.length
  ·refine AW (rd 0 11 .done) Al Dk (fun K N z => ⟨Ext K, ?_, ?_⟩)
   ·exact EZ
   have g : ∀ V, Ext K V → V.cell? ⟨E, 0, none⟩ = some (iV ((S : Int) - 1)) := fun V e => (Blk.E c (N.trans e) O).cell rfl;have j : ∀ V, Ext K V → V.cell? ⟨b, o + 4, none⟩ = some (.slice m f.args.length C) := fun V e => (N.trans e).cell i O;refine D_R rfl rfl (fun W B => AM rfl (g W B) Z3) (go ?_)
   all_goals
    refine go ?_;exact AA rfl ⟨(r.E.trans N.any (fun _ h _ => h)), .inr ⟨by omega, rfl⟩⟩
  by_cases a4 : (n : Int) + 1 < 1
  ·omega
  refine AW (rd 0 11 .done) Al Dk (fun K N z => ⟨Ext K, ?_, ?_⟩)
  ·exact EZ
  have g : ∀ V, Ext K V → V.cell? ⟨E, 0, none⟩ = some (iV ((S : Int) - 1)) := fun V e => (Blk.E c (N.trans e) O).cell rfl;have j : ∀ V, Ext K V → V.cell? ⟨b, o + 4, none⟩ = some (.slice m f.args.length C) := fun V e => (N.trans e).cell i O;refine D_R rfl rfl (fun W B => AM rfl (g W B) Z3) (go ?_);replace c := c.E N O;replace t := t.E N O;replace I := I.E N (fun _ _ => by simp);have k1 : Keep [E] w K := r.E.ext N;clear g j M;replace i := N.cell i O;refine go ?_;refine Ah (α := Nat) (fun k => [(0, .pointer (some ⟨b, o, none⟩)), (1, iV ((n + 1 : Nat) : Int)), (2, pt E), (3, pt Z), (25, iV (f.args.length : Int)), (26, iV (k : Int))]) (fun k W => k ≤ f.args.length ∧ Keep [E] w W ∧ szL (f.args.take k) + 1 ≤ S ∧ dpL (f.args.take k) ≤ n ∧ PF (fun b => b ≠ E) W b o f ∧ Blk W E 3 [iV (S - 1 - szL (f.args.take k) : Nat)] ∧ Blk W Z 185 [fitsV E Z]) (fun k => f.args.length - k) 0 ⟨rfl, rfl, rfl, rfl, rfl, rfl, trivial⟩ ⟨by omega, k1, by simp [szL]; omega, by simp [dpL], I, by rw [show ((S - 1 - szL (f.args.take 0) : Nat) : Int) = (S : Int) - 1 by simp [szL]; omega]; exact c, t⟩ ?_;rintro k W fr ⟨hk, T, a3, d, A, Q, y⟩;refine go ?_;by_cases a2 : k < f.args.length
  ·refine go ?_;obtain ⟨x, l⟩ : ∃ x, f.args[k]? = some x := ⟨_, List.getElem?_eq_getElem a2⟩;obtain ⟨m, C, _, i, M⟩ := A.arg;obtain ⟨u, p, rfl, a1⟩ := M k x l;have b1 := szL_take l;have b0 := szL_take_le f.args (k + 1);have a5 := Ba (List.mem_of_getElem? l);refine AW (rd 0 9 (.alt 9 (.read 10 .done) .stop)) Al Dk (fun K N z => ⟨Keep [E] K, ?_, ?_⟩)
   ·exact Ep
   have g : ∀ V, Keep [E] K V → V.cell? ⟨Z, 0, none⟩ = some (fitsV E Z) := fun V e => ((y.E N O).E e (by simpa using s)).cell rfl;have j : ∀ V, Keep [E] K V → V.cell? ⟨b, o + 4, none⟩ = some (.slice (some ⟨u, p, none⟩) f.args.length C) := fun V e => e.cell (N.cell i O) (by simpa using A.1);(refine D_R rfl rfl (fun W B => AM rfl (g W B) Z3) (D_R rfl rfl (fun W B => Ag rfl Z3) (D_R rfl rfl (fun W B => AK rfl Z3) (D_R rfl rfl (fun W B => AF rfl Z3) (D_R rfl rfl (fun W B => AM rfl (j W B) Z3) (D_R rfl rfl (fun W B => Af rfl Z3) (D_R rfl rfl (fun W B => C5 rfl rfl rfl U Z3) (D_R rfl rfl (fun W B => Af rfl Z3) ?_))))))) <;> (apply D_R rfl rfl; (intro W B; refine W_sub rfl rfl Du ?_; exact Z3)))
   refine D_E rfl ?_;refine Av (v1 := []) (v2 := [pt E, pt Z]) (vs := [.pointer (some ⟨u, p + k * 5, none⟩), iV (((n + 1 : Nat) : Int) - 1)]) rfl (by rw [show ((n + 1 : Nat) : Int) - 1 = (n : Int) by omega]; exact ih K u (p + k * 5) x (S - 1 - szL (f.args.take k)) U U (a1.E N (fun _ _ => by simp)) (Q.E N O) (y.E N O)) rfl ?_;rintro _ w4 ⟨R, hr⟩;refine AH ⟨Keep [E] K, fun _ e => e, R, ?_⟩;have F : Keep [E] w w4 := (T.ext N).trans R (fun _ l _ => l);rcases hr with ⟨a9, a0, rfl, G⟩ | ⟨a8, rfl⟩
   ·refine go ?_;refine ⟨k + 1, ⟨rfl, ⟨rfl, rfl, rfl, rfl, rfl, ?_, trivial⟩, ⟨by omega, F, by omega, ?_, (A.E N (fun _ _ => by simp)).E R (fun b q => by simpa using q), ?_, (y.E N O).E R (by simpa using s)⟩⟩, by omega⟩
    ·show iV ((k : Int) + 1) = _;rw [Int.natCast_add]; rfl
    ·rw [List.take_add_one, l];refine dpL_le_iff.2 fun a H => ?_;rcases List.mem_append.1 H with H | H
     ·exact dpL_le_iff.1 d a H
     ·obtain rfl : a = x := by simpa using H
      exact a0
    ·rw [show S - 1 - szL (f.args.take (k + 1)) = S - 1 - szL (f.args.take k) - szF x by omega];exact G
   ·refine go ?_;exact AA rfl ⟨F, .inr ⟨by omega, rfl⟩⟩
  ·refine go ?_;rw [List.take_of_length_le U] at a3 d Q;refine AA rfl ⟨T, .inl ⟨by omega, by omega, rfl, ?_⟩⟩;rw [show S - (szL f.args + 1) = S - 1 - szL f.args by omega];exact Q
theorem within_ok (w : World) (b o : Nat) (f : Fml) (S D : Nat) (d : S ≤ 1000) (c : D ≤ 1000) (I : PF (fun b => b < w.heap.size) w b o f) :
  Fn Zp 83 [.pointer (some ⟨b, o, none⟩), iV S, iV D] w fun v w' => v = .bool (decide (szF f ≤ S) && decide (dpF f ≤ D)) ∧ Ext w w' := by
 refine AG Tryz.func83 rfl Tryz.ntmps83 (go ?_);refine Aj (L := [iV S]) rfl (fun Q E => go ?_);refine AQ (fun j V => go ?_);refine AN (v := fitsV w.heap.size Q.heap.size) rfl rfl rfl V.D O (fun u a => go ?_);have e := E.size;have l := V.size;have t := a.D;have P := V.E.E a.E O;have g : Ext w u := E.E.trans P;have k := E.D.E P O;refine go ?_;refine Av (v1 := []) (v2 := [pt w.heap.size, pt Q.heap.size]) (vs := [.pointer (some ⟨b, o, none⟩), iV D]) rfl (fits_ok w.heap.size Q.heap.size U D u b o f S c d ((I.E g (fun _ _ => by simp)).mono fun x i => by omega) k t) rfl ?_;rintro v p ⟨R, B⟩
 obtain rfl : v = .bool (decide (szF f ≤ S) && decide (dpF f ≤ D)) := by
  rcases B with ⟨X, W, rfl, _⟩ | ⟨h, rfl⟩
  ·simp [X, W]
  ·simp; exact fun X => by omega
 refine go ?_;exact AA rfl ⟨rfl, g.E R O⟩
theorem PF.all {ok : Nat → Prop} {w : World} {b o : Nat} {f : Fml} (h : PF ok w b o f) : ∃ a c, f.args.length ≤ 9223372036854775807 ∧ w.cell? ⟨b, o + 0, none⟩ = some (iV f.op) ∧ w.cell? ⟨b, o + 1, none⟩ = some (AI f.name) ∧ w.cell? ⟨b, o + 2, none⟩ = some (iV f.val) ∧
  w.cell? ⟨b, o + 3, none⟩ = some (iV f.bound) ∧ w.cell? ⟨b, o + 4, none⟩ = some (.slice a f.args.length c) ∧ ∀ (k : Nat) (x : Fml), f.args[k]? = some x → ∃ r p, a = some ⟨r, p, none⟩ ∧ PF ok w r (p + k * 5) x := by
 obtain ⟨a, c, X, W, R⟩ := h.arg;obtain ⟨_, d, G, L, T, _⟩ := h.form;exact ⟨a, c, X, T 0 _ rfl, T 1 _ rfl, T 2 _ rfl, T 3 _ rfl, W, R⟩
def shapeX (x : Form) (nm : LU) (v b n : Int) : Bool := decide (x.least ≤ n) && decide (n ≤ x.most) && decide (0 ≤ v) && decide (v ≤ x.val) && decide (0 ≤ b) && decide (b ≤ x.bound) && if x.named then CJ nm else decide (nm = [])
def De (f : Fml) : Bool := isOpB f.op && shapeX (BJ f.op) f.name f.val f.bound f.args.length
theorem shapeF_eq (f : Fml) (h : f.args.length ≤ 1000000) : De f = Bp f.op f.name f.val f.bound f.args.length := by
 unfold De;cases hb : isOpB f.op with
 | false =>
  unfold Bp;simp only [isOpB, Bool.and_eq_false_iff, decide_eq_false_iff_not] at hb;cases hs : (decide (1 ≤ f.op) && decide (f.op ≤ 19))
  ·simp
  ·simp at hs; omega
 | true =>
  have X : 1 ≤ f.op ∧ f.op < 20 := by simpa [isOpB] using hb
  have A : BJ f.op = formsL.getD f.op.toNat zeroForm := by unfold BJ; rw [if_pos hb]
  rw [A];obtain ⟨N, o, v, b, args⟩ := f;simp only [Fml.op, Fml.name, Fml.val, Fml.bound, Fml.args] at *;have F : o.isEmpty = decide (o = []) := by cases o <;> simp
  have : N = 1 ∨ N = 2 ∨ N = 3 ∨ N = 4 ∨ N = 5 ∨ N = 6 ∨ N = 7 ∨ N = 8 ∨ N = 9 ∨ N = 10 ∨ N = 11 ∨ N = 12 ∨ N = 13 ∨ N = 14 ∨ N = 15 ∨ N = 16 ∨ N = 17 ∨ N = 18 ∨ N = 19 := by omega
  rcases this with rfl | rfl | rfl | rfl | rfl | rfl | rfl | rfl | rfl | rfl | rfl | rfl | rfl | rfl | rfl | rfl | rfl | rfl | rfl
  all_goals
   simp [formsL, shapeX, Bp, Ar, F];try (congr 1; congr 1; congr 1; congr 1; rw [Bool.eq_iff_iff]; simp; omega)
theorem shaped_ok (w : World) (b o : Nat) (f : Fml) (s : PF AZ w b o f) (F : GF w) (u : KY w) (M : f.args.length ≤ 1000000) : Fn Zp 133 [.pointer (some ⟨b, o, none⟩)] w fun v w' => v = .bool (De f) ∧ Ext w w' := by
 refine AG Tryz.func133 rfl Tryz.ntmps133 (go ?_);have A := s.opc;refine go ?_;refine AC (formOf_ok w f.op F) rfl ?_;rintro _ Q ⟨rfl, G⟩;refine go ?_;refine An (cs := Bl (BJ f.op)) rfl rfl Dn (formC_one _) (fun L t => go ?_);have l := G.trans t.E;have g := t.D;have h := s.E l (fun _ _ => by simp);obtain ⟨q, r, _, k, d, n, z, p, _⟩ := h.all;clear A t s;unfold De;generalize BJ f.op = x at g ⊢;cases hb : isOpB f.op with
 | false =>
  refine AW (rd 0 22 .done) Al Dk (fun K N I => ⟨Ext K, ?_, ?_⟩)
  ·exact EZ
  have m : ∀ V, Ext K V → V.cell? ⟨Q.heap.size, 0 + 0, none⟩ = some (iV x.least) := fun V e => (Blk.E g (N.trans e) O).cell rfl;have a : ∀ V, Ext K V → V.cell? ⟨Q.heap.size, 0 + 1, none⟩ = some (iV x.most) := fun V e => (Blk.E g (N.trans e) O).cell rfl;have c : ∀ V, Ext K V → V.cell? ⟨Q.heap.size, 0 + 2, none⟩ = some (iV x.val) := fun V e => (Blk.E g (N.trans e) O).cell rfl;have C : ∀ V, Ext K V → V.cell? ⟨Q.heap.size, 0 + 3, none⟩ = some (iV x.bound) := fun V e => (Blk.E g (N.trans e) O).cell rfl;have i : ∀ V, Ext K V → V.cell? ⟨b, o + 2, none⟩ = some (iV f.val) := fun V e => (N.trans e).cell n O;have E : ∀ V, Ext K V → V.cell? ⟨b, o + 3, none⟩ = some (iV f.bound) := fun V e => (N.trans e).cell z O;have j : ∀ V, Ext K V → V.cell? ⟨b, o + 4, none⟩ = some (.slice q f.args.length r) := fun V e => (N.trans e).cell p O;refine go ?_;exact AA rfl ⟨rfl, l.trans N⟩
 | true =>
 by_cases X : x.least ≤ f.args.length ∧ (f.args.length : Int) ≤ x.most;rotate_left
 ·have D : shapeX x f.name f.val f.bound f.args.length = false := by
   cases D : shapeX x f.name f.val f.bound f.args.length with
   | false => rfl
   | true => exact absurd ⟨by simp [shapeX] at D; omega, by simp [shapeX] at D; omega⟩ X
  rw [D];refine AW (rd 0 22 .done) Al Dk (fun K N I => ⟨Ext K, ?_, ?_⟩)
  ·exact EZ
  have m : ∀ V, Ext K V → V.cell? ⟨Q.heap.size, 0 + 0, none⟩ = some (iV x.least) := fun V e => (Blk.E g (N.trans e) O).cell rfl;have a : ∀ V, Ext K V → V.cell? ⟨Q.heap.size, 0 + 1, none⟩ = some (iV x.most) := fun V e => (Blk.E g (N.trans e) O).cell rfl;have c : ∀ V, Ext K V → V.cell? ⟨Q.heap.size, 0 + 2, none⟩ = some (iV x.val) := fun V e => (Blk.E g (N.trans e) O).cell rfl;have C : ∀ V, Ext K V → V.cell? ⟨Q.heap.size, 0 + 3, none⟩ = some (iV x.bound) := fun V e => (Blk.E g (N.trans e) O).cell rfl;have i : ∀ V, Ext K V → V.cell? ⟨b, o + 2, none⟩ = some (iV f.val) := fun V e => (N.trans e).cell n O;have E : ∀ V, Ext K V → V.cell? ⟨b, o + 3, none⟩ = some (iV f.bound) := fun V e => (N.trans e).cell z O;have j : ∀ V, Ext K V → V.cell? ⟨b, o + 4, none⟩ = some (.slice q f.args.length r) := fun V e => (N.trans e).cell p O;(refine D_R rfl rfl (fun W B => AP rfl Z3) (D_R rfl rfl (fun W B => W_not rfl Z3) (D_R rfl rfl (fun W B => AP rfl Z3) (D_R rfl rfl (fun W B => AS rfl (Ag rfl Z3)) (D_R rfl rfl (fun W B => AS rfl (AK rfl Z3)) (D_R rfl rfl (fun W B => AS rfl (AF rfl Z3)) (D_R rfl rfl (fun W B => AS rfl (AM rfl (j W B) Z3)) (D_R rfl rfl (fun W B => AS rfl (CD rfl Z3)) (D_R rfl rfl (fun W B => AS rfl (AF rfl Z3)) (D_R rfl rfl (fun W B => AS rfl (AM rfl (m W B) Z3)) ?_))))))))) <;> (refine D_lss rfl rfl rfl rfl (fun T => ?_) (fun T => ?_) <;> try omega) <;> refine D_R rfl rfl (fun W B => Au rfl (AP rfl Z3)) (D_R rfl rfl (fun W B => AP rfl Z3) ?_) <;> (first | refine BI rfl rfl rfl rfl ?_ | (apply D_R rfl rfl; (intro W B; (refine AS rfl ?_; refine Ag rfl ?_); exact AH ⟨rfl, rfl, rfl⟩))) <;> (first | refine BI rfl rfl rfl rfl ?_ | (apply D_R rfl rfl; (intro W B; (refine AS rfl ?_; refine AK rfl ?_); exact AH ⟨rfl, rfl, rfl⟩))) <;> (first | refine BI rfl rfl rfl rfl ?_ | (apply D_R rfl rfl; (intro W B; (refine AS rfl ?_; refine AF rfl ?_); exact AH ⟨rfl, rfl, rfl⟩))) <;> (first | refine BI rfl rfl rfl rfl ?_ | (apply D_R rfl rfl; (intro W B; (refine AS rfl ?_; refine AM rfl (j W B) ?_); exact AH ⟨rfl, rfl, rfl⟩))) <;> (first | refine BI rfl rfl rfl rfl ?_ | (apply D_R rfl rfl; (intro W B; (refine AS rfl ?_; refine CD rfl ?_); exact AH ⟨rfl, rfl, rfl⟩))) <;> (first | refine BI rfl rfl rfl rfl ?_ | (apply D_R rfl rfl; (intro W B; (refine AS rfl ?_; refine AF rfl ?_); exact AH ⟨rfl, rfl, rfl⟩))) <;> (first | refine BI rfl rfl rfl rfl ?_ | (apply D_R rfl rfl; (intro W B; (refine AS rfl ?_; refine AM rfl (a W B) ?_); exact AH ⟨rfl, rfl, rfl⟩))) <;> (first | refine BI rfl rfl rfl rfl ?_ | refine D_gtrT rfl rfl rfl rfl U ?_) <;> (apply D_R rfl rfl; (intro W B; ((first | refine A4 rfl ?_ | refine Au rfl ?_); refine AP rfl ?_); exact Z3)) <;> refine Cb ?_)
  all_goals
   refine go ?_;exact AA rfl ⟨rfl, l.trans N⟩
 refine AW (rd 0 22 .done) Al Dk (fun K N I => ⟨Ext K, ?_, ?_⟩)
 ·exact EZ
 have m : ∀ V, Ext K V → V.cell? ⟨Q.heap.size, 0 + 0, none⟩ = some (iV x.least) := fun V e => (Blk.E g (N.trans e) O).cell rfl;have a : ∀ V, Ext K V → V.cell? ⟨Q.heap.size, 0 + 1, none⟩ = some (iV x.most) := fun V e => (Blk.E g (N.trans e) O).cell rfl;have c : ∀ V, Ext K V → V.cell? ⟨Q.heap.size, 0 + 2, none⟩ = some (iV x.val) := fun V e => (Blk.E g (N.trans e) O).cell rfl;have C : ∀ V, Ext K V → V.cell? ⟨Q.heap.size, 0 + 3, none⟩ = some (iV x.bound) := fun V e => (Blk.E g (N.trans e) O).cell rfl;have i : ∀ V, Ext K V → V.cell? ⟨b, o + 2, none⟩ = some (iV f.val) := fun V e => (N.trans e).cell n O;have E : ∀ V, Ext K V → V.cell? ⟨b, o + 3, none⟩ = some (iV f.bound) := fun V e => (N.trans e).cell z O;have j : ∀ V, Ext K V → V.cell? ⟨b, o + 4, none⟩ = some (.slice q f.args.length r) := fun V e => (N.trans e).cell p O;refine D_R rfl rfl (fun W B => AP rfl Z3) (D_R rfl rfl (fun W B => W_not rfl Z3) (D_R rfl rfl (fun W B => AP rfl Z3) (D_R rfl rfl (fun W B => AS rfl (Ag rfl Z3)) (D_R rfl rfl (fun W B => AS rfl (AK rfl Z3)) (D_R rfl rfl (fun W B => AS rfl (AF rfl Z3)) (D_R rfl rfl (fun W B => AS rfl (AM rfl (j W B) Z3)) (D_R rfl rfl (fun W B => AS rfl (CD rfl Z3)) (D_R rfl rfl (fun W B => AS rfl (AF rfl Z3)) (D_R rfl rfl (fun W B => AS rfl (AM rfl (m W B) Z3)) (D_lssF rfl rfl rfl rfl U (D_R rfl rfl (fun W B => Au rfl (AP rfl Z3)) (D_R rfl rfl (fun W B => AP rfl Z3) (D_R rfl rfl (fun W B => AS rfl (Ag rfl Z3)) (D_R rfl rfl (fun W B => AS rfl (AK rfl Z3)) (D_R rfl rfl (fun W B => AS rfl (AF rfl Z3)) (D_R rfl rfl (fun W B => AS rfl (AM rfl (j W B) Z3)) (D_R rfl rfl (fun W B => AS rfl (CD rfl Z3)) (D_R rfl rfl (fun W B => AS rfl (AF rfl Z3)) (D_R rfl rfl (fun W B => AS rfl (AM rfl (a W B) Z3)) (D_gtrF rfl rfl rfl rfl U (D_R rfl rfl (fun W B => Au rfl (AP rfl Z3)) (Cb ?_))))))))))))))))))))));clear m a c C i E j;refine go ?_;replace k := N.cell k O;replace d := N.cell d O;replace n := N.cell n O;replace z := N.cell z O;replace p := N.cell p O;replace g := Blk.E g N O;replace l := l.trans N;clear N I
 rename World => w3
 by_cases y : 0 ≤ f.val ∧ f.val ≤ x.val ∧ 0 ≤ f.bound ∧ f.bound ≤ x.bound;rotate_left
 ·have D : shapeX x f.name f.val f.bound f.args.length = false := by
   cases D : shapeX x f.name f.val f.bound f.args.length with
   | false => rfl
   | true => exact absurd (by simp [shapeX] at D; omega) y
  rw [D];refine AW (rd 0 30 .done) Al Dk (fun K N I => ⟨Ext K, ?_, ?_⟩)
  ·exact EZ
  have m : ∀ V, Ext K V → V.cell? ⟨Q.heap.size, 0 + 0, none⟩ = some (iV x.least) := fun V e => (Blk.E g (N.trans e) O).cell rfl;have a : ∀ V, Ext K V → V.cell? ⟨Q.heap.size, 0 + 1, none⟩ = some (iV x.most) := fun V e => (Blk.E g (N.trans e) O).cell rfl;have c : ∀ V, Ext K V → V.cell? ⟨Q.heap.size, 0 + 2, none⟩ = some (iV x.val) := fun V e => (Blk.E g (N.trans e) O).cell rfl;have C : ∀ V, Ext K V → V.cell? ⟨Q.heap.size, 0 + 3, none⟩ = some (iV x.bound) := fun V e => (Blk.E g (N.trans e) O).cell rfl;have i : ∀ V, Ext K V → V.cell? ⟨b, o + 2, none⟩ = some (iV f.val) := fun V e => (N.trans e).cell n O;have E : ∀ V, Ext K V → V.cell? ⟨b, o + 3, none⟩ = some (iV f.bound) := fun V e => (N.trans e).cell z O;have j : ∀ V, Ext K V → V.cell? ⟨b, o + 4, none⟩ = some (.slice q f.args.length r) := fun V e => (N.trans e).cell p O;(refine D_R rfl rfl (fun W B => Ag rfl Z3) (D_R rfl rfl (fun W B => AK rfl Z3) (D_R rfl rfl (fun W B => AF rfl Z3) (D_R rfl rfl (fun W B => AM rfl (i W B) Z3) ?_))) <;> (refine D_lss rfl rfl rfl rfl (fun T => ?_) (fun T => ?_) <;> try omega) <;> refine D_R rfl rfl (fun W B => AP rfl Z3) ?_ <;> (first | refine BI rfl rfl rfl rfl ?_ | (apply D_R rfl rfl; (intro W B; (refine AS rfl ?_; refine Ag rfl ?_); exact AH ⟨rfl, rfl, rfl⟩))) <;> (first | refine BI rfl rfl rfl rfl ?_ | (apply D_R rfl rfl; (intro W B; (refine AS rfl ?_; refine AK rfl ?_); exact AH ⟨rfl, rfl, rfl⟩))) <;> (first | refine BI rfl rfl rfl rfl ?_ | (apply D_R rfl rfl; (intro W B; (refine AS rfl ?_; refine AF rfl ?_); exact AH ⟨rfl, rfl, rfl⟩))) <;> (first | refine BI rfl rfl rfl rfl ?_ | (apply D_R rfl rfl; (intro W B; (refine AS rfl ?_; refine AM rfl (i W B) ?_); exact AH ⟨rfl, rfl, rfl⟩))) <;> (first | refine BI rfl rfl rfl rfl ?_ | (apply D_R rfl rfl; (intro W B; (refine AS rfl ?_; refine AF rfl ?_); exact AH ⟨rfl, rfl, rfl⟩))) <;> (first | refine BI rfl rfl rfl rfl ?_ | (apply D_R rfl rfl; (intro W B; (refine AS rfl ?_; refine AM rfl (c W B) ?_); exact AH ⟨rfl, rfl, rfl⟩))) <;> (first | refine BI rfl rfl rfl rfl ?_ | (refine D_gtr rfl rfl rfl rfl (fun T => ?_) (fun T => ?_) <;> try omega)) <;> (apply D_R rfl rfl; (intro W B; ((first | refine A4 rfl ?_ | refine Au rfl ?_); refine AP rfl ?_); exact Z3)) <;> refine D_R rfl rfl (fun W B => AP rfl Z3) ?_ <;> (first | refine BI rfl rfl rfl rfl ?_ | (apply D_R rfl rfl; (intro W B; (refine AS rfl ?_; refine Ag rfl ?_); exact AH ⟨rfl, rfl, rfl⟩))) <;> (first | refine BI rfl rfl rfl rfl ?_ | (apply D_R rfl rfl; (intro W B; (refine AS rfl ?_; refine AK rfl ?_); exact AH ⟨rfl, rfl, rfl⟩))) <;> (first | refine BI rfl rfl rfl rfl ?_ | (apply D_R rfl rfl; (intro W B; (refine AS rfl ?_; refine AF rfl ?_); exact AH ⟨rfl, rfl, rfl⟩))) <;> (first | refine BI rfl rfl rfl rfl ?_ | (apply D_R rfl rfl; (intro W B; (refine AS rfl ?_; refine AM rfl (E W B) ?_); exact AH ⟨rfl, rfl, rfl⟩))) <;> (first | refine BI rfl rfl rfl rfl ?_ | (refine D_lss rfl rfl rfl rfl (fun T => ?_) (fun T => ?_) <;> try omega)) <;> (apply D_R rfl rfl; (intro W B; ((first | refine A4 rfl ?_ | refine Au rfl ?_); refine AP rfl ?_); exact Z3)) <;> refine D_R rfl rfl (fun W B => AP rfl Z3) ?_ <;> (first | refine BI rfl rfl rfl rfl ?_ | (apply D_R rfl rfl; (intro W B; (refine AS rfl ?_; refine Ag rfl ?_); exact AH ⟨rfl, rfl, rfl⟩))) <;> (first | refine BI rfl rfl rfl rfl ?_ | (apply D_R rfl rfl; (intro W B; (refine AS rfl ?_; refine AK rfl ?_); exact AH ⟨rfl, rfl, rfl⟩))) <;> (first | refine BI rfl rfl rfl rfl ?_ | (apply D_R rfl rfl; (intro W B; (refine AS rfl ?_; refine AF rfl ?_); exact AH ⟨rfl, rfl, rfl⟩))) <;> (first | refine BI rfl rfl rfl rfl ?_ | (apply D_R rfl rfl; (intro W B; (refine AS rfl ?_; refine AM rfl (E W B) ?_); exact AH ⟨rfl, rfl, rfl⟩))) <;> (first | refine BI rfl rfl rfl rfl ?_ | (apply D_R rfl rfl; (intro W B; (refine AS rfl ?_; refine AF rfl ?_); exact AH ⟨rfl, rfl, rfl⟩))) <;> (first | refine BI rfl rfl rfl rfl ?_ | (apply D_R rfl rfl; (intro W B; (refine AS rfl ?_; refine AM rfl (C W B) ?_); exact AH ⟨rfl, rfl, rfl⟩))) <;> (first | refine BI rfl rfl rfl rfl ?_ | refine D_gtrT rfl rfl rfl rfl U ?_) <;> (apply D_R rfl rfl; (intro W B; ((first | refine A4 rfl ?_ | refine Au rfl ?_); refine AP rfl ?_); exact Z3)) <;> refine Cb ?_)
  all_goals
   refine go ?_;exact AA rfl ⟨rfl, l.trans N⟩
 have D : shapeX x f.name f.val f.bound f.args.length = if x.named then CJ f.name else decide (f.name = []) := by simp [shapeX, X, y]
 rw [D];refine AW (rd 0 30 .done) Al Dk (fun K N I => ⟨Ext K, ?_, ?_⟩)
 ·exact EZ
 have m : ∀ V, Ext K V → V.cell? ⟨Q.heap.size, 0 + 0, none⟩ = some (iV x.least) := fun V e => (Blk.E g (N.trans e) O).cell rfl;have a : ∀ V, Ext K V → V.cell? ⟨Q.heap.size, 0 + 1, none⟩ = some (iV x.most) := fun V e => (Blk.E g (N.trans e) O).cell rfl;have c : ∀ V, Ext K V → V.cell? ⟨Q.heap.size, 0 + 2, none⟩ = some (iV x.val) := fun V e => (Blk.E g (N.trans e) O).cell rfl;have C : ∀ V, Ext K V → V.cell? ⟨Q.heap.size, 0 + 3, none⟩ = some (iV x.bound) := fun V e => (Blk.E g (N.trans e) O).cell rfl;have i : ∀ V, Ext K V → V.cell? ⟨b, o + 2, none⟩ = some (iV f.val) := fun V e => (N.trans e).cell n O;have E : ∀ V, Ext K V → V.cell? ⟨b, o + 3, none⟩ = some (iV f.bound) := fun V e => (N.trans e).cell z O;have j : ∀ V, Ext K V → V.cell? ⟨b, o + 4, none⟩ = some (.slice q f.args.length r) := fun V e => (N.trans e).cell p O;refine D_R rfl rfl (fun W B => Ag rfl Z3) (D_R rfl rfl (fun W B => AK rfl Z3) (D_R rfl rfl (fun W B => AF rfl Z3) (D_R rfl rfl (fun W B => AM rfl (i W B) Z3) (D_lssF rfl rfl rfl rfl U (D_R rfl rfl (fun W B => AP rfl Z3) (D_R rfl rfl (fun W B => AS rfl (Ag rfl Z3)) (D_R rfl rfl (fun W B => AS rfl (AK rfl Z3)) (D_R rfl rfl (fun W B => AS rfl (AF rfl Z3)) (D_R rfl rfl (fun W B => AS rfl (AM rfl (i W B) Z3)) (D_R rfl rfl (fun W B => AS rfl (AF rfl Z3)) (D_R rfl rfl (fun W B => AS rfl (AM rfl (c W B) Z3)) (D_gtrF rfl rfl rfl rfl U (D_R rfl rfl (fun W B => Au rfl (AP rfl Z3)) (D_R rfl rfl (fun W B => AP rfl Z3) (D_R rfl rfl (fun W B => AS rfl (Ag rfl Z3)) (D_R rfl rfl (fun W B => AS rfl (AK rfl Z3)) (D_R rfl rfl (fun W B => AS rfl (AF rfl Z3)) (D_R rfl rfl (fun W B => AS rfl (AM rfl (E W B) Z3)) (D_lssF rfl rfl rfl rfl U (D_R rfl rfl (fun W B => Au rfl (AP rfl Z3)) (D_R rfl rfl (fun W B => AP rfl Z3) (D_R rfl rfl (fun W B => AS rfl (Ag rfl Z3)) (D_R rfl rfl (fun W B => AS rfl (AK rfl Z3)) (D_R rfl rfl (fun W B => AS rfl (AF rfl Z3)) (D_R rfl rfl (fun W B => AS rfl (AM rfl (E W B) Z3)) (D_R rfl rfl (fun W B => AS rfl (AF rfl Z3)) (D_R rfl rfl (fun W B => AS rfl (AM rfl (C W B) Z3)) (D_gtrF rfl rfl rfl rfl U (D_R rfl rfl (fun W B => Au rfl (AP rfl Z3)) (Cb ?_))))))))))))))))))))))))))))));clear m a c C i E j;replace d := N.cell d O;replace g := Blk.E g N O;replace l := l.trans N;obtain ⟨S, Z, xv, R, P, xp, H, xo⟩ := x;cases P with
 | true =>
  refine go ?_;refine AC (DA f.name K (u.E l O)) rfl ?_;rintro _ _ ⟨rfl, rfl⟩;refine go ?_;exact AA rfl ⟨rfl, l⟩
 | false =>
  repeat first | refine nx rfl ?_ | refine nf rfl ?_
  (refine AJ (AF rfl (AM rfl (Blk.cell Do Dn) ?_)))
  repeat first | refine nx rfl ?_ | refine nf rfl ?_
  (refine AJ (Ag rfl (AK rfl (AF rfl (AM rfl Do ?_)))) <;> refine W_seql rfl rfl (fun T => ?_) (fun T => ?_) <;> refine Ac (AP rfl ?_))
  ·repeat refine nx rfl ?_
   exact AA rfl ⟨show Value.bool true = _ by simp [T], l⟩
  ·repeat refine nx rfl ?_
   exact AA rfl ⟨show Value.bool false = _ by simp [T], l⟩
end
section
variable {mk : Prop} [MK mk]
end
section
variable {mk : Prop} [MK mk]
end
section
variable {mk : Prop} [MK mk]
theorem preF_sz : ∀ (f : Fml) (j : Bool) (x : Nd), x ∈ DW j f → szF x.1 ≤ szF f
 | .mk op nm v b args, j, x, h => by
  simp only [DW, List.mem_cons] at h;rcases h with rfl | h
  ·exact Nat.le_refl _
  ·have := preL_sz args _ x h;simp only [szF]; omega
where preL_sz : ∀ (l : LF) (j : Bool) (x : Nd), x ∈ C8 j l → szF x.1 ≤ szL l
 | [], _, _, h => by cases h
 | f :: l, j, x, h => by
  simp only [C8, List.mem_append] at h;simp only [szL];rcases h with h | h
  ·have := preF_sz f j x h; omega
  ·have := preL_sz l j x h; omega
theorem asnQ_mono {k H : Fr → DS → World → Prop} (h : ∀ f ds w, k f ds w → H f ds w) (e : Exit) (f : Fr) (ds : DS) (w : World) (P : asnQ k e f ds w) : asnQ H e f ds w := by
 cases e <;> delta asnQ at P ⊢
 ·exact h _ _ _ P
 all_goals exact P
def goodQ (E : Nat) (W : World) : Bool → DQ
 | true => fun e _ _ x => e = .normal ∧ Ext W x
 | false => fun e _ _ x => e = .ret ∧ Keep [E] W x ∧ Blk x E 4 [.bool false]
theorem C_allNodes {n : Nat} {Q : DQ} {g : Operand} {ps : List Nat} {a0 body : Code} {f : Fr} {ds : DS} {w : World} (N : Nd → Bool) {E cf b o : Nat} {F : Fml}
  (hv : ev f g = .func (.func 178) #[] #[pt cf]) (b1 : (ps.all (fun t => Nat.blt t n) && (CR n true a0 && CR n true body)) = true) (b0 : ps.length = 2)
  (s : Blk w E 4 [.bool false]) (a1 : Blk w cf 96 [.pointer (some ⟨b, o, none⟩)]) (hF : PF (fun b => b ≠ E) w b o F) (hG : GF w) (hN : 10 ≤ E) (hd : dpF F ≤ 5000)
  (a9 : ∀ (l r p : Nat) (x : Fml) (i : Bool) (W : World), szF x ≤ szF F → WC Zp ⟨n, some l⟩ a0 (asnQ fun f' a2 w' => w' = W ∧ ∀ T, Ext w T → PF (fun b => b ≠ E) T r p x → Blk T E 4 [.bool false] → WC Zp ⟨n, some l⟩ body (goodQ E T (N (x, i))) f' a2 T) (ovz (ps.zip [.pointer (some ⟨r, p, none⟩), .bool i]) f) [] W)
  (a3 : ∀ W, Keep [E] w W → Blk W E 4 [.bool false] → W.heap[w.heap.size]? = some (.deferred (some [])) → Q (if (DW false F).all N then .normal else .ret) f ({ target := .collected w.heap.size, args := #[] } :: ds) W) :
  WC Zp ⟨n, none⟩ (.rangeFunc g ps.toArray a0 body) Q f ds w := by
 have b6 := s.lt;refine C_range [] [pt cf] hv b1 fun a7 Bsy a6 K P X s1 m1 r1 => ?_;replace s := s.E X O;replace a1 := a1.E X O;have a8 := (hF.lt.E X (fun _ _ => by simp)).mono (ok' := fun b => b ∉ [E, w.heap.size + 1] ∧ b < K.heap.size) (fun x V => by have := V.2; simp; omega);obtain ⟨S, G⟩ : ∃ S : List Nd → World → Prop, ∀ L W, S L W ↔ (L.all N = true ∧ Ext w W ∧ Blk W E 4 [.bool false] ∧ a7 W ∧ W.heap[w.heap.size]? = some (.deferred (some [])) ∧ K.heap.size ≤ W.heap.size) := ⟨_, fun _ _ => Iff.rfl⟩;obtain ⟨D, hD⟩ : ∃ D : List Nd → World → Prop, ∀ L W, D L W ↔ (L.all N = false ∧ Keep [E] w W ∧ Blk W E 4 [.bool false] ∧ a6 .ret W ∧ W.heap[w.heap.size]? = some (.deferred (some [])) ∧ K.heap.size ≤ W.heap.size) := ⟨_, fun _ _ => Iff.rfl⟩
 have H : NodesR (.func (.yield (w.heap.size + 1)) #[] #[]) [E, w.heap.size + 1] K.heap.size (DW false F) S D := by
  refine ⟨⟨_, rfl⟩, fun x V => by simp at V; omega, fun y k u => ?_, fun {L W r p x i} y hp hP => ?_⟩
  ·obtain ⟨m, z, A, q, B, j⟩ := (G _ _).1 y;exact (G _ _).2 ⟨m, z.E k (fun x V => by have := u x V; omega), A.E k (fun h => by have := u _ h; omega), P.rdy q k (fun h => by have := u _ h; omega), (k.block _ U (fun h => by have := u _ h; omega)).trans B, Nat.le_trans j k.size⟩
  ·obtain ⟨m, z, A, q, B, j⟩ := (G _ _).1 y;have b2 := preF_sz F false (x, i) (hP.subset O);refine YldP.mono (R := fun v Z => Keep [E, w.heap.size + 1] W Z ∧ ((v = .bool true ∧ S (L ++ [(x, i)]) Z) ∨ (v = .bool false ∧ D (L ++ [(x, i)]) Z))) (Y := fun _ _ => False) (P.round q b0.symm ?_) (fun v Z h => h) (fun _ _ h => h);refine WC_mono _ (asnQ_mono fun f' a2 w' hh => ?_) _ _ _ (a9 (w.heap.size + 1) r p x i W b2);obtain ⟨rfl, hh⟩ := hh;refine ⟨q, fun T I s2 y2 => ?_⟩;have e2 := z.E I O;have s := A.E I Dl;refine WC_mono _ (fun e b5 b4 W3 hq => ?_) _ _ _ (hh T e2 ((hp.E I (fun b hb => by have := hb.1; simp at this ⊢; omega)).mono fun b hb => by have := hb.1; simp at this; omega) s);have a5 : Keep [E, w.heap.size + 1] w' T := I.mono (fun x V => by simp at V; simp [V]);have a4 := (I.block _ U O).trans B;have z2 := I.size;cases hg : N (x, i) with
   | true =>
    rw [hg] at hq;obtain ⟨rfl, c⟩ := hq;have z3 := c.size;have y3 := P.bsy y2 c O;refine Q_rnd y3 fun W4 C s4 y4 => ⟨(a5.ext c).trans C (fun x V _ => by simp at V; simp [V]), .inl ⟨rfl, (G _ _).2 ⟨by simp [m, hg], (e2.trans c).E C O, (s.E c O).E C Dl, y4, (C.block _ U O).trans ((c.block _ U O).trans a4), by omega⟩⟩⟩
   | false =>
    rw [hg] at hq;obtain ⟨rfl, c, b3⟩ := hq;have z3 := c.size;have y3 := P.bsy y2 c Dl;refine Q_rnd_ret y3 fun W4 C s4 y4 => ⟨(a5.trans c (fun x V _ => by simp at V; simp [V])).trans C (fun x V _ => by simp at V; simp [V]), .inr ⟨rfl, (hD _ _).2 ⟨by simp [hg], (e2.any.trans c (fun _ h _ => h)).trans C (fun x V h => by simp at V; omega), b3.E C Dl, y4, (C.block _ U O).trans ((c.block _ U Dl).trans a4), by omega⟩⟩⟩
 refine Fn.mono (nodesIt_ok K cf b o F H a1 a8 (hG.ext X) U hd ((G _ _).2 ⟨rfl, X, s, r1, m1, Nat.le_refl _⟩) (fun x V => by simp at V; omega)) ?_;rintro v w8 ⟨_, y | ⟨M, hM, _, hd⟩⟩
 ·obtain ⟨m, z, A, q, B, j⟩ := (G _ _).1 y;refine .inl ⟨q, fun d a s9 => ?_⟩;have := a3 d ((z.any.trans a (fun x V h => by simp at V; omega)) : Keep [E] w d) (A.E a Dl) ((a.block _ U O).trans B);rw [m] at this;exact this
 ·obtain ⟨m, z, A, q, B, j⟩ := (hD _ _).1 hd;refine .inr ⟨.ret, q, fun d a s9 => ?_⟩;have := a3 d ((z.trans a (fun x V h => by simp at V; omega)) : Keep [E] w d) (A.E a Dl) ((a.block _ U O).trans B)
  rw [show (DW false F).all N = false by
   rw [← Bool.not_eq_true, List.all_eq_true];intro h;rw [← Bool.not_eq_true, List.all_eq_true] at m;exact m fun x V => h x (hM.subset V)] at this
  unfold behind;exact this
end
section
variable {mk : Prop} [MK mk]
end
section
variable {mk : Prop} [MK mk]
theorem lib_cmpI (a b : Int) : Lib.compareInt a b = cmpI a b := by
 unfold Lib.compareInt cmpI;rfl
theorem lib_cmpS : ∀ s t : LU, Lib.compareBytes s t = Df s t
 | [], [] => rfl
 | [], _ :: _ => rfl
 | _ :: _, [] => rfl
 | a :: s, b :: t => by
  rw [Lib.compareBytes, Df, lib_cmpS s t];rfl
theorem cmpInt_ok (a b : Int) (w : World) : Fn Zp 81 [iV a, iV b] w fun v w' => v = iV (cmpI a b) ∧ w' = w := by
 refine Calls.mono (Tryz.cmp_Compare_int a b w) ?_;rintro e w' ⟨rfl, rfl⟩;exact ⟨by rw [lib_cmpI], rfl⟩
theorem cmpStr_ok (a b : LU) (w : World) : Fn Zp 82 [AI a, AI b] w fun v w' => v = iV (Df a b) ∧ w' = w := by
 refine Calls.mono (Tryz.strings_Compare ⟨a.toArray⟩ ⟨b.toArray⟩ w) ?_;rintro e w' ⟨rfl, rfl⟩;exact ⟨by rw [lib_cmpS], rfl⟩
def cmpN (f g : Fml) : Int := Bn (cmpI f.op g.op) (Bn (Df f.name g.name) (Bn (cmpI f.val g.val) (Bn (cmpI f.bound g.bound) (cmpI f.args.length g.args.length))))
theorem thenI_ne {a b : Int} (h : a ≠ 0) : Bn a b = a := if_neg h
theorem Cc {a b : Int} (h : a = 0) : Bn a b = b := if_pos h
theorem cmpF_split (f g : Fml) : BO f g = Bn (cmpN f g) (cmpL f.args g.args) := by
 obtain ⟨o, n, v, b, l⟩ := f;obtain ⟨p, E, d, r, A⟩ := g;rw [BO];simp only [cmpN, Fml.op, Fml.name, Fml.val, Fml.bound, Fml.args]
 have h : ∀ a b c : Int, Bn (Bn a b) c = Bn a (Bn b c) := by
  intro a b c;unfold Bn;by_cases h : a = 0
  ·rw [if_pos h, if_pos h]
  ·rw [if_neg h, if_neg h, if_neg h]
 simp only [h]
set_option maxHeartbeats 1600000 in
theorem cmpNodes_ok (w : World) (b o r p : Nat) (f g : Fml) (Z : PF AZ w b o f) (z : PF AZ w r p g) :
  Fn Zp 50 [.pointer (some ⟨b, o, none⟩), .pointer (some ⟨r, p, none⟩)] w fun v w' => v = iV (cmpN f g) ∧ Ext w w' := by
 obtain ⟨_, a, c, L, d, _, _⟩ := Z.form;obtain ⟨_, q, G, L', i, _, _⟩ := z.form;have D : w.cell? ⟨b, o + 0, none⟩ = some (iV f.op) := d 0 _ rfl;have E : w.cell? ⟨b, o + 1, none⟩ = some (AI f.name) := d 1 _ rfl;have k : w.cell? ⟨b, o + 2, none⟩ = some (iV f.val) := d 2 _ rfl;have j : w.cell? ⟨b, o + 3, none⟩ = some (iV f.bound) := d 3 _ rfl;have M : w.cell? ⟨b, o + 4, none⟩ = some (.slice a f.args.length c) := d 4 _ rfl;have F : w.cell? ⟨r, p + 0, none⟩ = some (iV g.op) := i 0 _ rfl;have P : w.cell? ⟨r, p + 1, none⟩ = some (AI g.name) := i 1 _ rfl;have S : w.cell? ⟨r, p + 2, none⟩ = some (iV g.val) := i 2 _ rfl;have V : w.cell? ⟨r, p + 3, none⟩ = some (iV g.bound) := i 3 _ rfl;have X : w.cell? ⟨r, p + 4, none⟩ = some (.slice q g.args.length G) := i 4 _ rfl;clear d i;have T : Ext w w := Ext.refl w;have h : ∀ W, Ext w W → W.cell? ⟨b, o + 0, none⟩ = some (iV f.op) := fun W e => e.cell D O;have C : ∀ W, Ext w W → W.cell? ⟨b, o + 1, none⟩ = some (AI f.name) := fun W e => e.cell E O;have x : ∀ W, Ext w W → W.cell? ⟨b, o + 2, none⟩ = some (iV f.val) := fun W e => e.cell k O;have l : ∀ W, Ext w W → W.cell? ⟨b, o + 3, none⟩ = some (iV f.bound) := fun W e => e.cell j O;have a0 : ∀ W, Ext w W → W.cell? ⟨b, o + 4, none⟩ = some (.slice a f.args.length c) := fun W e => e.cell M O;have u : ∀ W, Ext w W → W.cell? ⟨r, p + 0, none⟩ = some (iV g.op) := fun W e => e.cell F O;have t : ∀ W, Ext w W → W.cell? ⟨r, p + 1, none⟩ = some (AI g.name) := fun W e => e.cell P O;have s : ∀ W, Ext w W → W.cell? ⟨r, p + 2, none⟩ = some (iV g.val) := fun W e => e.cell S O;have m : ∀ W, Ext w W → W.cell? ⟨r, p + 3, none⟩ = some (iV g.bound) := fun W e => e.cell V O;have a1 : ∀ W, Ext w W → W.cell? ⟨r, p + 4, none⟩ = some (.slice q g.args.length G) := fun W e => e.cell X O;clear D E k j M F P S V X;refine AG Tryz.func50 rfl Tryz.ntmps50 (go ?_);by_cases y : f.op = g.op;rotate_left
 ·refine AW (rd 0 10 .done) Al Dk (fun K N I => ⟨Ext w, ?_, ?_⟩)
  ·exact T.trans N
  replace T := T.trans N;refine D_R rfl rfl (fun W B => Ag rfl Z3) (D_R rfl rfl (fun W B => AK rfl Z3) (D_R rfl rfl (fun W B => AF rfl Z3) (D_R rfl rfl (fun W B => AM rfl (h W B) Z3) (D_R rfl rfl (fun W B => Ag rfl Z3) (D_R rfl rfl (fun W B => AK rfl Z3) (D_R rfl rfl (fun W B => AF rfl Z3) (D_R rfl rfl (fun W B => AM rfl (u W B) Z3) (D_neqT rfl rfl rfl rfl U (D_R rfl rfl (fun W B => Ac (AP rfl Z3)) (Cb (go ?_)))))))))));have n0 : cmpI f.op g.op ≠ 0 := fun e => y (cmpI_zero.1 e);refine AW (rd 0 8 (.alt 8 (.read 9 .done) .stop)) Al Dk (fun K N I => ⟨Ext w, ?_, ?_⟩)
  ·exact T.trans N
  replace T := T.trans N;refine D_R rfl rfl (fun W B => Ag rfl Z3) (D_R rfl rfl (fun W B => AK rfl Z3) (D_R rfl rfl (fun W B => AF rfl Z3) (D_R rfl rfl (fun W B => AM rfl (h W B) Z3) (D_R rfl rfl (fun W B => Ag rfl Z3) (D_R rfl rfl (fun W B => AK rfl Z3) (D_R rfl rfl (fun W B => AF rfl Z3) (D_R rfl rfl (fun W B => AM rfl (u W B) Z3) ?_)))))));refine D_E rfl ?_;refine AC (cmpInt_ok f.op g.op _) rfl ?_;rintro _ _ ⟨rfl, rfl⟩;refine AH ⟨Ext w, fun _ e => e, T, ?_⟩;refine go ?_;exact AA rfl ⟨congrArg (iV) (by simp only [cmpN]; rw [thenI_ne n0]), T⟩
 have H := cmpI_zero.2 y;refine AW (rd 0 10 .done) Al Dk (fun K N I => ⟨Ext w, ?_, ?_⟩)
 ·exact T.trans N
 replace T := T.trans N;refine D_R rfl rfl (fun W B => Ag rfl Z3) (D_R rfl rfl (fun W B => AK rfl Z3) (D_R rfl rfl (fun W B => AF rfl Z3) (D_R rfl rfl (fun W B => AM rfl (h W B) Z3) (D_R rfl rfl (fun W B => Ag rfl Z3) (D_R rfl rfl (fun W B => AK rfl Z3) (D_R rfl rfl (fun W B => AF rfl Z3) (D_R rfl rfl (fun W B => AM rfl (u W B) Z3) (D_neqF rfl rfl rfl rfl U (D_R rfl rfl (fun W B => Ac (AP rfl Z3)) (Cb (go ?_)))))))))));refine AW (rd 0 10 .done) Al Dk (fun K N I => ⟨Ext w, ?_, ?_⟩)
 ·exact T.trans N
 replace T := T.trans N;(refine D_R rfl rfl (fun W B => Ag rfl Z3) (D_R rfl rfl (fun W B => AK rfl Z3) (D_R rfl rfl (fun W B => AF rfl Z3) (D_R rfl rfl (fun W B => AM rfl (C W B) Z3) (D_R rfl rfl (fun W B => Ag rfl Z3) (D_R rfl rfl (fun W B => AK rfl Z3) (D_R rfl rfl (fun W B => AF rfl Z3) (D_R rfl rfl (fun W B => AM rfl (t W B) Z3) ?_))))))) <;> (refine D_sneq rfl rfl rfl rfl (fun d => ?_) (fun d => ?_)) <;> refine D_R rfl rfl (fun W B => Ac (AP rfl Z3)) (Cb ?_))
 ·refine go ?_;have n1 : Df f.name g.name ≠ 0 := fun e => d (cmpS_zero.1 e);refine AW (rd 0 8 (.alt 8 (.read 9 .done) .stop)) Al Dk (fun K N I => ⟨Ext w, ?_, ?_⟩)
  ·exact T.trans N
  replace T := T.trans N;refine D_R rfl rfl (fun W B => Ag rfl Z3) (D_R rfl rfl (fun W B => AK rfl Z3) (D_R rfl rfl (fun W B => AF rfl Z3) (D_R rfl rfl (fun W B => AM rfl (C W B) Z3) (D_R rfl rfl (fun W B => Ag rfl Z3) (D_R rfl rfl (fun W B => AK rfl Z3) (D_R rfl rfl (fun W B => AF rfl Z3) (D_R rfl rfl (fun W B => AM rfl (t W B) Z3) ?_)))))));refine D_E rfl ?_;refine AC (cmpStr_ok f.name g.name _) rfl ?_;rintro _ _ ⟨rfl, rfl⟩;refine AH ⟨Ext w, fun _ e => e, T, ?_⟩;refine go ?_;exact AA rfl ⟨congrArg (iV) (by simp only [cmpN]; rw [Cc H, thenI_ne n1]), T⟩
 have n := cmpS_zero.2 d;refine go ?_;by_cases A : f.val = g.val;rotate_left
 ·refine AW (rd 0 10 .done) Al Dk (fun K N I => ⟨Ext w, ?_, ?_⟩)
  ·exact T.trans N
  replace T := T.trans N;refine D_R rfl rfl (fun W B => Ag rfl Z3) (D_R rfl rfl (fun W B => AK rfl Z3) (D_R rfl rfl (fun W B => AF rfl Z3) (D_R rfl rfl (fun W B => AM rfl (x W B) Z3) (D_R rfl rfl (fun W B => Ag rfl Z3) (D_R rfl rfl (fun W B => AK rfl Z3) (D_R rfl rfl (fun W B => AF rfl Z3) (D_R rfl rfl (fun W B => AM rfl (s W B) Z3) (D_neqT rfl rfl rfl rfl U (D_R rfl rfl (fun W B => Ac (AP rfl Z3)) (Cb (go ?_)))))))))));have n2 : cmpI f.val g.val ≠ 0 := fun e => A (cmpI_zero.1 e);refine AW (rd 0 8 (.alt 8 (.read 9 .done) .stop)) Al Dk (fun K N I => ⟨Ext w, ?_, ?_⟩)
  ·exact T.trans N
  replace T := T.trans N;refine D_R rfl rfl (fun W B => Ag rfl Z3) (D_R rfl rfl (fun W B => AK rfl Z3) (D_R rfl rfl (fun W B => AF rfl Z3) (D_R rfl rfl (fun W B => AM rfl (x W B) Z3) (D_R rfl rfl (fun W B => Ag rfl Z3) (D_R rfl rfl (fun W B => AK rfl Z3) (D_R rfl rfl (fun W B => AF rfl Z3) (D_R rfl rfl (fun W B => AM rfl (s W B) Z3) ?_)))))));refine D_E rfl ?_;refine AC (cmpInt_ok f.val g.val _) rfl ?_;rintro _ _ ⟨rfl, rfl⟩;refine AH ⟨Ext w, fun _ e => e, T, ?_⟩;refine go ?_;exact AA rfl ⟨congrArg (iV) (by simp only [cmpN]; rw [Cc H, Cc n, thenI_ne n2]), T⟩
 have Q := cmpI_zero.2 A;refine AW (rd 0 10 .done) Al Dk (fun K N I => ⟨Ext w, ?_, ?_⟩)
 ·exact T.trans N
 replace T := T.trans N;refine D_R rfl rfl (fun W B => Ag rfl Z3) (D_R rfl rfl (fun W B => AK rfl Z3) (D_R rfl rfl (fun W B => AF rfl Z3) (D_R rfl rfl (fun W B => AM rfl (x W B) Z3) (D_R rfl rfl (fun W B => Ag rfl Z3) (D_R rfl rfl (fun W B => AK rfl Z3) (D_R rfl rfl (fun W B => AF rfl Z3) (D_R rfl rfl (fun W B => AM rfl (s W B) Z3) (D_neqF rfl rfl rfl rfl U (D_R rfl rfl (fun W B => Ac (AP rfl Z3)) (Cb (go ?_)))))))))));by_cases R : f.bound = g.bound;rotate_left
 ·refine AW (rd 0 10 .done) Al Dk (fun K N I => ⟨Ext w, ?_, ?_⟩)
  ·exact T.trans N
  replace T := T.trans N;refine D_R rfl rfl (fun W B => Ag rfl Z3) (D_R rfl rfl (fun W B => AK rfl Z3) (D_R rfl rfl (fun W B => AF rfl Z3) (D_R rfl rfl (fun W B => AM rfl (l W B) Z3) (D_R rfl rfl (fun W B => Ag rfl Z3) (D_R rfl rfl (fun W B => AK rfl Z3) (D_R rfl rfl (fun W B => AF rfl Z3) (D_R rfl rfl (fun W B => AM rfl (m W B) Z3) (D_neqT rfl rfl rfl rfl U (D_R rfl rfl (fun W B => Ac (AP rfl Z3)) (Cb (go ?_)))))))))));have n3 : cmpI f.bound g.bound ≠ 0 := fun e => R (cmpI_zero.1 e);refine AW (rd 0 8 (.alt 8 (.read 9 .done) .stop)) Al Dk (fun K N I => ⟨Ext w, ?_, ?_⟩)
  ·exact T.trans N
  replace T := T.trans N;refine D_R rfl rfl (fun W B => Ag rfl Z3) (D_R rfl rfl (fun W B => AK rfl Z3) (D_R rfl rfl (fun W B => AF rfl Z3) (D_R rfl rfl (fun W B => AM rfl (l W B) Z3) (D_R rfl rfl (fun W B => Ag rfl Z3) (D_R rfl rfl (fun W B => AK rfl Z3) (D_R rfl rfl (fun W B => AF rfl Z3) (D_R rfl rfl (fun W B => AM rfl (m W B) Z3) ?_)))))));refine D_E rfl ?_;refine AC (cmpInt_ok f.bound g.bound _) rfl ?_;rintro _ _ ⟨rfl, rfl⟩;refine AH ⟨Ext w, fun _ e => e, T, ?_⟩;refine go ?_;exact AA rfl ⟨congrArg (iV) (by simp only [cmpN]; rw [Cc H, Cc n, Cc Q, thenI_ne n3]), T⟩
 have z3 := cmpI_zero.2 R;refine AW (rd 0 10 .done) Al Dk (fun K N I => ⟨Ext w, ?_, ?_⟩)
 ·exact T.trans N
 replace T := T.trans N;refine D_R rfl rfl (fun W B => Ag rfl Z3) (D_R rfl rfl (fun W B => AK rfl Z3) (D_R rfl rfl (fun W B => AF rfl Z3) (D_R rfl rfl (fun W B => AM rfl (l W B) Z3) (D_R rfl rfl (fun W B => Ag rfl Z3) (D_R rfl rfl (fun W B => AK rfl Z3) (D_R rfl rfl (fun W B => AF rfl Z3) (D_R rfl rfl (fun W B => AM rfl (m W B) Z3) (D_neqF rfl rfl rfl rfl U (D_R rfl rfl (fun W B => Ac (AP rfl Z3)) (Cb (go ?_)))))))))));refine AW (rd 0 10 (.alt 10 (.read 11 .done) .stop)) Al Dk (fun K N I => ⟨Ext w, ?_, ?_⟩)
 ·exact T.trans N
 replace T := T.trans N;refine D_R rfl rfl (fun W B => Ag rfl Z3) (D_R rfl rfl (fun W B => AK rfl Z3) (D_R rfl rfl (fun W B => AF rfl Z3) (D_R rfl rfl (fun W B => AM rfl (a0 W B) Z3) (D_R rfl rfl (fun W B => CD rfl Z3) (D_R rfl rfl (fun W B => Ag rfl Z3) (D_R rfl rfl (fun W B => AK rfl Z3) (D_R rfl rfl (fun W B => AF rfl Z3) (D_R rfl rfl (fun W B => AM rfl (a1 W B) Z3) (D_R rfl rfl (fun W B => CD rfl Z3) ?_)))))))));refine D_E rfl ?_;refine AC (cmpInt_ok f.args.length g.args.length _) rfl ?_;rintro _ _ ⟨rfl, rfl⟩;refine AH ⟨Ext w, fun _ e => e, T, ?_⟩;refine go ?_;exact AA rfl ⟨congrArg (iV) (by simp only [cmpN]; rw [Cc H, Cc n, Cc Q, Cc z3]), T⟩
section
attribute [local semireducible] WC AO Bi BH Be Cq DN BU
variable {P : Program} {all : Array Oper} {Z : Fr → DS → List PanicEntry → World → Prop} {K : Fr → DS → World → Prop} {rest : List Oper} {f : Fr} {ds : DS} {w : World} {d : Nat} {ty : TypeId} {pos : String} {af : Array Edge}
class PtrT (P : Program) (T : TypeId) (e : outParam TypeId) : Prop where
 und : P.underlying T = some (.pointer e)
 info : ∃ j, P.info? e = some j ∧ j.size ≠ 0
theorem ptrT_of {T e : TypeId} (h : P.underlying T = some (.pointer e)) (W : ((P.info? e).map fun j => decide (j.size ≠ 0)) = some true) : PtrT P T e := by
 obtain ⟨j, y, R⟩ := Option.map_eq_some_iff.1 W;exact ⟨h, j, y, by simpa using R⟩
theorem run_sameAddr_unm (w : World) {a b : Addr} {e B : Array Value} {s j : TypeId} {g M : Nat × Nat} (H : w.heap[a.block]? = some (.cells e s g)) (S : w.heap[b.block]? = some (.cells B j M)) (r : g = (0, 0) ∨ M = (0, 0)) (m : 0 < e.size) (X : 0 < B.size) (l : a ≠ b) : (sameAddr a b).run P w = .ok false w := by
 by_cases L : a.block = b.block
 ·simp [sameAddr, L, l]
 ·have k : e.size ≠ 0 := by omega
  have c : B.size ≠ 0 := by omega
  have G : (match some (s, e.size) with | some (_, 0) => true | _ => false) = false := by
   cases h : e.size with
   | zero => exact absurd h k
   | succ n => rfl
  have i : (match some (j, B.size) with | some (_, 0) => true | _ => false) = false := by
   cases h : B.size with
   | zero => exact absurd h c
   | succ n => rfl
  rcases r with rfl | rfl
  ·simp [sameAddr, L, World.frozen?, H, S, noView, viewAt, World.shape?, mayBeOne, stringish, k, c];try (split <;> simp [G, i])
  ·simp [sameAddr, L, World.frozen?, H, S, noView, viewAt, World.shape?, mayBeOne, stringish, k, c];try (split <;> simp [G, i])
theorem W_ptrEq {T o e : TypeId} {x y : Operand} {a b : Addr} {c B : Array Value} {m p : TypeId} {g M : Nat × Nat} [hT : PtrT P T e] (V : ev f x = .pointer (some a)) (l : ev f y = .pointer (some b)) (H : w.heap[a.block]? = some (.cells c m g)) (S : w.heap[b.block]? = some (.cells B p M)) (r : g = (0, 0) ∨ M = (0, 0)) (s : 0 < c.size) (X : 0 < B.size)
  (h : AO P all Z K rest (upd f d (.bool (decide (a = b)))) ds w) : AO P all Z K (⟨some d, .binOp .eql T x y o, ty, pos, af, none⟩ :: rest) f ds w := by
 refine Aq rfl ?_ h;obtain ⟨j, i, D⟩ := hT.info
 have C : ∀ n : Nat, (Op.equalIn (n + 1) T (.pointer (some a)) (.pointer (some b))).run P w = .ok (decide (a = b)) w := fun n => by
  by_cases v : a = b
  ·subst v;simp [Op.equalIn, run_underlying hT.und, sizeOf, typeInfo, i, run_sameAddr_same]
  ·simp [Op.equalIn, run_underlying hT.und, sizeOf, typeInfo, i, D, run_sameAddr_unm w H S r s X v, v]
 have k : (binOp .eql T (.pointer (some a)) (.pointer (some b))).run P w = .ok (.bool (decide (a = b))) w := by
  simp only [binOp];simp [Op.equal, Op.maxDepth, C 9999]
 simp [execOp, V, l, eqGuard, k]
end
instance : PtrT Zp 96 36 := ptrT_of Tryz.underlying96 Dk
theorem sl_same {ok ok' : Nat → Prop} {w : World} {a : Option Addr} {n c G k : Nat} {cs v : LV} (h : Sl ok w (.slice a n c) n cs) (t : Sl ok' w (.slice a n G) n v) (M : cs.length = n * k) (p : v.length = n * k) : cs = v := by
 by_cases s : n = 0
 ·subst s;have g : cs = [] := List.eq_nil_of_length_eq_zero (by simpa using M);have x : v = [] := List.eq_nil_of_length_eq_zero (by simpa using p);rw [g, x]
 ·obtain ⟨_, _, e, _, _, _, m⟩ := h;obtain ⟨_, _, X, _, _, _, q⟩ := t;cases e; cases X;obtain ⟨b, o, rfl, _, T⟩ := m.resolve_left s;obtain ⟨r, y, e, _, u⟩ := q.resolve_left s;cases e;refine List.ext_getElem? fun i => ?_;by_cases F : i < n * k
  ·have g := List.getElem?_eq_getElem (l := cs) (i := i) U;have x := List.getElem?_eq_getElem (l := v) (i := i) U;have j := T i _ g;have W := u i _ x;rw [g, x, ← j, ← W]
  ·rw [List.getElem?_eq_none U, List.getElem?_eq_none U]
theorem flat_inj (n : Nat) (G : 0 < n) : ∀ {L M : List (LV)}, (∀ d ∈ L, d.length = n) → (∀ d ∈ M, d.length = n) → L.flatten = M.flatten → L = M
 | [], [], _, _, _ => rfl
 | [], d :: M, _, hM, e => by
  have := congrArg List.length e;have X := hM d O;simp only [List.flatten_nil, List.length_nil, List.flatten_cons, List.length_append] at this;omega
 | c :: L, [], hL, _, e => by
  have := congrArg List.length e;have X := hL c O;simp only [List.flatten_nil, List.length_nil, List.flatten_cons, List.length_append] at this;omega
 | c :: L, d :: M, hL, hM, e => by
  rw [List.flatten_cons, List.flatten_cons] at e;obtain ⟨a, b⟩ := List.append_inj e (by rw [hL c O, hM d O]);rw [a, flat_inj n G (fun x V => hL x (by simp [V])) (fun x V => hM x (by simp [V])) b]
theorem FAt.uniq {ok ok' : Nat → Prop} {w : World} : ∀ (f g : Fml) (v : Value), FAt ok w v f → FAt ok' w v g → f = g
 | .mk op nm x b args, g, v, hf, hg => by
  obtain ⟨av, rfl, L, C, D, y, G⟩ := hf.form;obtain ⟨a0, e, M, I, m, l, T⟩ := hg.form;simp only [Value.agg.injEq, Array.mk.injEq, List.cons.injEq, Value.int.injEq, true_and, and_true] at e;obtain ⟨s, t, z, W, h⟩ := e;subst h;obtain ⟨a, c, rfl, a1⟩ := id C;obtain ⟨X, c', Q, a2⟩ := id I;have q : args.length = g.args.length := (Value.slice.inj Q).2.1
  have R : L.flatten = M.flatten := by
   have V : Sl ok' w (.slice a args.length c) args.length M.flatten := by rw [q]; rw [← q]; exact q ▸ I
   refine sl_same (k := 5) C V ?_ ?_
   ·rw [CC 5 L y, D]
   ·rw [CC 5 M l, m]; exact congrArg (· * 5) q.symm
  have n := flat_inj 5 U y l R;subst n
  have j : args = g.args := by
   refine List.ext_getElem? fun i => ?_;by_cases F : i < args.length
   ·have B : L[i]? = some L[i] := List.getElem?_eq_getElem U;have H : args[i]? = some args[i] := List.getElem?_eq_getElem F;have S : g.args[i]? = some g.args[i] := List.getElem?_eq_getElem U;rw [H, S, FAt.uniq args[i] g.args[i] _ (G i _ _ B H) (T i _ _ B S)]
   ·rw [List.getElem?_eq_none U, List.getElem?_eq_none U]
  have N : nm = g.name := by
   have u : AI nm = AI g.name := t;simp only [AI, Value.string.injEq, ByteArray.mk.injEq] at u;simpa using congrArg Array.toList u
  obtain ⟨o, E, p, r, A⟩ := g;have s : op = o := s;have t : nm = E := N;have z : x = p := z;have W : b = r := W;have h : args = A := j;rw [s, t, z, W, h]
 termination_by f => f
 decreasing_by
  have := List.sizeOf_lt_of_mem (List.getElem_mem F)
  simp_wf
  omega
def FL (ok : Nat → Prop) (w : World) (v : Value) (l : LF) : Prop := ∃ a c L, v = .slice a l.length c ∧ Sl ok w (.slice a l.length c) l.length L.flatten ∧ FsAt ok w L l
theorem FL.E {ok : Nat → Prop} {X : List Nat} {w w' : World} {v : Value} {l : LF} (h : FL ok w v l) (k : Keep X w w') (e : ∀ b, ok b → b ∉ X) : FL ok w' v l := by
 obtain ⟨a, c, L, rfl, g, W⟩ := h;exact ⟨a, c, L, rfl, g.E k e, W.E k e⟩
theorem PF.args {ok : Nat → Prop} {w : World} {b o : Nat} {f : Fml} (h : PF ok w b o f) : ∃ v, w.cell? ⟨b, o + 4, none⟩ = some v ∧ FL ok w v f.args := by
 obtain ⟨_, a, c, L, T, e, l⟩ := h.form;exact ⟨_, T 4 _ rfl, a, c, L, rfl, e, l⟩
theorem FL.cons {ok : Nat → Prop} {w : World} {v : Value} {x : Fml} {l : LF} (h : FL ok w v (x :: l)) : ∃ b o c, v = .slice (some ⟨b, o, none⟩) (l.length + 1) c ∧ 1 ≤ c ∧ PF ok w b o x ∧ FL ok w (.slice (adv c 1 5 (some ⟨b, o, none⟩)) l.length (c - 1)) l := by
 obtain ⟨a, c, L, rfl, p, m⟩ := h;obtain ⟨t, y, e, X, W, R, k⟩ := p;cases e;obtain ⟨b, o, rfl, S, T⟩ := k.resolve_left O;obtain ⟨D, j, G⟩ := m
 match L, D, j, G, T with
 | d :: L, D, j, G, T =>
  have C := j d O;have q : Cells w b o d := fun i u r => T i u (by rw [List.flatten_cons, List.getElem?_append_left (List.getElem?_eq_some_iff.1 r).1]; exact r);have n : L.length = l.length := by simpa using D
  refine ⟨b, o, c, rfl, by simp at X; omega, ⟨S, d, C, q, G 0 d x rfl rfl⟩, _, _, L, rfl, ⟨_, _, rfl, by simp at X; omega, by omega, ?_, ?_⟩, n, fun c T => j c Dw, fun i c g T z => G (i + 1) c g (by simpa using T) EC⟩
  ·intro H;unfold adv at H
   split at H
   ·cases H
   ·simp at H
  ·by_cases s : l.length = 0
   ·exact .inl s
   ·refine .inr ⟨b, o + 5, ?_, S, ?_⟩
    ·unfold adv;rw [if_neg (by simp at X; omega)];rfl
    ·intro i u r;have := T (5 + i) u (by rw [List.flatten_cons, List.getElem?_append_right U, C, show 5 + i - 5 = i by omega]; exact r);rw [Nat.add_assoc]; exact this
theorem FL.form {ok : Nat → Prop} {w : World} {v : Value} {l : LF} (h : FL ok w v l) : ∃ a c, v = .slice a l.length c := by
 obtain ⟨a, c, L, rfl, _⟩ := h;exact ⟨a, c, rfl⟩
theorem PF.uniq {ok ok' : Nat → Prop} {w : World} {b o : Nat} {f g : Fml} (I : PF ok w b o f) (z : PF ok' w b o g) : f = g := by
 obtain ⟨_, d, C, T, X⟩ := I;obtain ⟨_, p, G, c, W⟩ := z
 have : d = p := by
  refine List.ext_getElem? fun i => ?_;by_cases F : i < 5
  ·have a := List.getElem?_eq_getElem (l := d) (i := i) U;have x := List.getElem?_eq_getElem (l := p) (i := i) U;rw [a, x, ← T i _ a, ← c i _ x]
  ·rw [List.getElem?_eq_none U, List.getElem?_eq_none U]
 subst this;exact FAt.uniq f g _ X W
theorem cell_blk {w : World} {b o : Nat} {v : Value} (h : w.cell? ⟨b, o, none⟩ = some v) : ∃ c t a, w.heap[b]? = some (.cells c t a) ∧ 0 < c.size ∧ c[o]? = some v := by
 unfold World.cell? at h
 split at h
 ·rename_i c t a heq;simp at h;exact ⟨c, t, a, heq, by have := (Array.getElem?_eq_some_iff.1 h).1; omega, h⟩
 ·cases h
theorem unm_blk {w : World} {b o : Nat} {n : Int} (r : Unm w b) (h : w.cell? ⟨b, o, none⟩ = some (iV n)) : ∃ c t, w.heap[b]? = some (.cells c t (0, 0)) ∧ 0 < c.size := by
 obtain ⟨c, t, a, X, W, R⟩ := cell_blk h;rcases r c t a X with rfl | g
 ·exact ⟨c, t, X, W⟩
 ·obtain ⟨m, e⟩ := g o _ R;cases e
section
attribute [local semireducible] WC AO Bi BH Be Cq DN BU
variable {P : Program} {all : Array Oper} {Z : Fr → DS → List PanicEntry → World → Prop} {K : Fr → DS → World → Prop} {rest : List Oper} {f : Fr} {ds : DS} {w : World} {d : Nat} {ty : TypeId} {pos : String} {af : Array Edge}
theorem W_slice_arr_h {T e size s : Nat} {b o : Nat} {x F : Operand} {a : IntKind} {t : Int} [hT : ArrT P T s e size] (V : ev f x = .pointer (some ⟨b, o, none⟩)) (u : ev f F = .int a t) (X : 0 ≤ t) (W : t ≤ s)
  (h : AO P all Z K rest (upd f d (.slice (some ⟨b, o, none⟩) t.toNat s)) ds w) : AO P all Z K (⟨some d, .slice T x none (some F) none, ty, pos, af, none⟩ :: rest) f ds w := by
 obtain ⟨q, H, D⟩ := hT.out;refine Aq rfl ?_ h;simp only [execOp, V, u, Option.map_some, Option.map_none, Instr.sliceAt, Sem.run_bind, run_underlying hT.und, Result.andThen_ok, Instr.sureAddr, Instr.sliceBounds, Instr.sliceBound, asIntOf, Sem.run_pure, sizeOf, typeInfo, program];simp [Sem.run, H, D, X, W, Addr.add_lit]
theorem run_append_roomE (t s e k : TypeId) (i : TypeInfo) (S : P.underlying t = some (.slice e)) (F : P.info? e = some i)
  (g h p : Nat) (o : Array Value) (z : w.heap[g]? = some (.cells o k (0, 0)))
  (a : Addr) (m c : Nat) (b : LV) (M : b.length = m * i.size) (n : ∀ j u, b[j]? = some u → w.cell? (a.add j) = some u) (X : ∀ u ∈ b, u.oneCell' = true)
  (q : h + m ≤ p) (l : h * i.size + b.length ≤ o.size) :
  (Builtin.append_ #[t, t] s #[.slice (sm g) h p, .slice (some a) m c]).run P w =
   .ok (.slice (sm g) (h + m) p) (w.setRow g (o.toList.take (h * i.size) ++ b ++ o.toList.drop (h * i.size + b.length)).toArray) := by
 have I := run_firstCells_some (P := P) w i.size m a m c b M n;have E := run_storeCells_at P g (h * i.size) k b 0 o w z (by simpa using l) X;simp only [Nat.add_zero] at E;simp [Builtin.append_, run_underlying S, sizeOf, typeInfo, F, Builtin.lenOf, q, I, Addr.add_lit, E]
theorem W_append1 {T e p size N n cap g : Nat} {z : Value} {s x : Operand} {sv : Value} {o : Array Value} {cs : LV} {ok : Nat → Prop} [hT : SlT P T e size N z] (q : ev f s = .slice (sm g) n cap) (V : ev f x = sv)
  (v : w.heap[g]? = some (.cells o p (0, 0))) (A : o.size = cap * size) (a0 : n ≤ cap) (t : cap ≤ maxLen) (hs : Sl ok w sv 1 cs) (a6 : 0 < size) (a2 : z.cells.size = size) (M : cs.length = size) (X : oneC cs) (hm : n + 1 ≤ 9223372036854775807) (S : (n + 1) * N ≤ 140737488355328)
  (h : ∀ g' cap' e' (y : Array Value) w', (g' = g ∨ g' = w.heap.size) → w'.heap[g']? = some (.cells y e' (0, 0)) → y.size = cap' * size → n + 1 ≤ cap' → cap' ≤ maxLen → y.toList.take ((n + 1) * size) = o.toList.take (n * size) ++ cs → Keep [g] w w' →
   AO P all Z K rest (upd f d (.slice (sm g') (n + 1) cap')) ds w') :
  AO P all Z K (⟨some d, .call ⟨.builtin .append, #[s, x], #[T, T]⟩, ty, pos, af, none⟩ :: rest) f ds w := by
 obtain ⟨i, F, hz, B, L⟩ := hT.out;obtain ⟨a, E, rfl, a4, _, a5, Q⟩ := hs;obtain ⟨b, D, rfl, _, H⟩ := Q.resolve_left U;have G : ∀ j u, cs[j]? = some u → w.cell? ((⟨b, D, none⟩ : Addr).add j) = some u := fun j u r => by rw [Addr.add_lit]; exact H j u r
 have R : cs.length = 1 * i.size := by rw [B]; omega
 have c : (o.toList.take (n * size)).length = n * size := by
  rw [List.length_take, Array.length_toList, A];exact Nat.min_eq_left (Nat.mul_le_mul_right _ a0)
 by_cases I : n + 1 ≤ cap
 ·have l : n * i.size + cs.length ≤ o.size := by
   rw [B, M, A, ← Nat.succ_mul]; exact Nat.mul_le_mul_right _ I
  have C := run_append_roomE (P := P) (w := w) T ty e p i hT.und F g n cap o v ⟨b, D, none⟩ 1 E cs R G X I l;refine Aq (w' := w.setRow g (o.toList.take (n * i.size) ++ cs ++ o.toList.drop (n * i.size + cs.length)).toArray) rfl (by simp [execOp, resolve, invoke, builtin, q, V, C]) (h g cap p _ _ (.inl rfl) (setRow_heap w g o _ p _ v) ?_ I t ?_ ?_)
  ·simp only [List.size_toArray, List.length_append, List.length_take, List.length_drop, Array.length_toList];omega
  ·rw [B, List.append_assoc];exact FE
  ·exact ⟨rfl, rfl, rfl, by simp, fun k _ m => setRow_other w g k _ (by simpa using m), fun _ => mark_put (g := g) (by simp [World.setRow]) (fun k m => setRow_other w g k _ m) (Unm.cells (setRow_heap w g _ _ p _ v)), Nat.le_refl _⟩
 ·have a1 : ∀ j u, (o.toList.take (n * size))[j]? = some u → w.cell? ((⟨g, 0, none⟩ : Addr).add j) = some u := fun j u r => by
   rw [Addr.add_lit, Nat.zero_add];rw [List.getElem?_take] at r
   split at r
   ·simp only [World.cell?, v];simpa using r
   ·cases r
  have W : ((n + 1 : Nat) : Int) ≤ 9223372036854775807 := by omega
  have C := run_append_grow (P := P) w T ty e i z hT.und F hz ⟨g, 0, none⟩ n cap (o.toList.take (n * size)) (by rw [B]; exact c) a1 ⟨b, D, none⟩ 1 E cs R G U W (by rw [L]; exact growslice_fits U S);refine Aq (w' := w.drew.alloc (.cells ((o.toList.take (n * size)).toArray ++ cs.toArray ++ Builtin.zeroCells z.cells (grownCap w (n + 1) cap e - (n + 1))) e)) rfl (by simp [execOp, resolve, invoke, builtin, q, V, C]) (h w.heap.size _ e _ _ (.inr rfl) (heap_alloc_new w.drew _) ?_ (grownCap_ge w (n + 1) cap e) (grownCap_le_maxLen w (n + 1) cap e Dq) ?_ ?_)
  ·simp only [Array.size_append, List.size_toArray, size_zeroCells, a2, c, M];have a3 := grownCap_ge w (n + 1) cap e;rw [← Nat.succ_mul, ← Nat.add_mul]
   congr 1
   omega
  ·simp only [Array.toList_append, List.append_assoc];exact FE
  ·exact ⟨rfl, rfl, rfl, by simp, fun k m _ => heap_alloc_old w.drew _ m, fun _ => mark_new O (fun k m => heap_alloc_old w.drew _ m) (Unm.cells (heap_alloc_new w.drew _)), Nat.le_succ _⟩
end
abbrev PP := LF × LF
def cmpSt : List PP → Int
 | [] => 0
 | p :: r => Bn (cmpL p.1 p.2) (cmpSt r)
def wtSt (ps : List PP) : Nat := (ps.map fun p => 2 * szL p.1 + 1).sum
theorem BB (ps : List PP) (p : PP) : wtSt (ps ++ [p]) = wtSt ps + (2 * szL p.1 + 1) := by simp [wtSt]
theorem wtSt_len : ∀ ps : List PP, ps.length ≤ wtSt ps
 | [] => Nat.zero_le _
 | p :: ps => by have := wtSt_len ps; simp only [wtSt, List.map_cons, List.sum_cons, List.length_cons] at this ⊢; omega
def Row2 (b I : Nat → Prop) (W : World) (c : LV) (p : PP) : Prop := ∃ v a, c = [v, a] ∧ FL b W v p.1 ∧ FL I W a p.2 ∧ p.1.length = p.2.length
theorem Row2.E {d I : Nat → Prop} {X : List Nat} {W x : World} {c : LV} {p : PP} (h : Row2 d I W c p) (k : Keep X W x) (f : ∀ b, d b → b ∉ X) (i : ∀ b, I b → b ∉ X) : Row2 d I x c p := by
 obtain ⟨v, j, e, a, b, l⟩ := h;exact ⟨v, j, e, a.E k f, b.E k i, l⟩
structure CS (okf okg : Nat → Prop) (C : Nat) (W : World) (g cap : Nat) (e : TypeId) (L : List (LV)) (rest : LV) (ps : List PP) : Prop where
 ge : C ≤ g
 D : Blk W g e (L.flatten ++ rest)
 len : (L.flatten ++ rest).length = cap * 2
 mx : cap ≤ maxLen
 two : ∀ c ∈ L, c.length = 2
 ll : L.length = ps.length
 rows : ∀ (i : Nat) (c : LV) (p : PP), L[i]? = some c → ps[i]? = some p → Row2 okf okg W c p
 lo : ∀ b, okf b ∨ okg b → b < C
section
variable {okf okg : Nat → Prop} {C g cap : Nat} {W W' : World} {e : TypeId} {L : List (LV)} {rest : LV} {ps : List PP}
theorem CS.flat (h : CS okf okg C W g cap e L rest ps) : L.flatten.length = ps.length * 2 := by rw [CC 2 L h.two, h.ll]
theorem CS.le (h : CS okf okg C W g cap e L rest ps) : ps.length ≤ cap := by
 have X := h.len;rw [List.length_append, h.flat] at X;omega
theorem CS.ext (h : CS okf okg C W g cap e L rest ps) (k : Ext W W') : CS okf okg C W' g cap e L rest ps :=
 ⟨h.ge, h.D.E k O, h.len, h.mx, h.two, h.ll, fun i c p T v => (h.rows i c p T v).E k O O, h.lo⟩
theorem CS.cut {c : LV} {p : PP} (h : CS okf okg C W g cap e (L ++ [c]) rest (ps ++ [p])) : CS okf okg C W g cap e L (c ++ rest) ps := by
 have b : (L ++ [c]).flatten ++ rest = L.flatten ++ (c ++ rest) := by simp
 refine ⟨h.ge, by rw [← b]; exact h.D, by rw [← b]; exact h.len, h.mx, fun d a => h.two d (by simp [a]), by have := h.ll; simpa using this, fun i d q a H => ?_, h.lo⟩;have F := (List.getElem?_eq_some_iff.1 a).1;have S := (List.getElem?_eq_some_iff.1 H).1;exact h.rows i d q (by rw [List.getElem?_append_left F]; exact a) (by rw [List.getElem?_append_left S]; exact H)
theorem CS.split (h : CS okf okg C W g cap e L rest ps) (s : 0 < ps.length) : ∃ M F v p l m, L = M ++ [[v, p]] ∧ ps = F ++ [(l, m)] ∧ FL okf W v l ∧ FL okg W p m ∧ l.length = m.length := by
 have a := h.ll;obtain ⟨F, q, rfl⟩ : ∃ F q, ps = F ++ [q] := ⟨ps.dropLast, ps.getLast (by intro e; simp [e] at s), (List.dropLast_concat_getLast _).symm⟩;obtain ⟨M, c, rfl⟩ : ∃ M c, L = M ++ [c] := ⟨L.dropLast, L.getLast (by intro e; simp [e] at a), (List.dropLast_concat_getLast _).symm⟩;simp only [List.length_append, List.length_singleton] at a;have B := h.rows F.length c q (by rw [List.getElem?_append_right U]; simp [show F.length - M.length = 0 by omega]) O;obtain ⟨v, p, rfl, X, b, R⟩ := B;exact ⟨M, F, v, p, q.1, q.2, rfl, rfl, X, b, R⟩
theorem CS.cells {v p : Value} {l m : LF} (h : CS okf okg C W g cap e (L ++ [[v, p]]) rest (ps ++ [(l, m)])) : W.cell? ⟨g, 0 + ps.length * 2 + 0, none⟩ = some v ∧ W.cell? ⟨g, 0 + ps.length * 2 + 1, none⟩ = some p ∧ 0 + ps.length * 2 + 1 < ((L ++ [[v, p]]).flatten ++ rest).length := by
 have f := h.ll;simp only [List.length_append, List.length_singleton] at f;have D : L.flatten.length = ps.length * 2 := by rw [CC 2 L fun c T => h.two c Dw]; omega
 have k : ((L ++ [[v, p]]).flatten ++ rest)[0 + ps.length * 2 + 0]? = some v := by
  simp only [List.flatten_append, List.flatten_cons, List.flatten_nil, List.append_nil, List.append_assoc];rw [List.getElem?_append_right U];simp [D]
 have d : ((L ++ [[v, p]]).flatten ++ rest)[0 + ps.length * 2 + 1]? = some p := by
  simp only [List.flatten_append, List.flatten_cons, List.flatten_nil, List.append_nil, List.append_assoc];rw [List.getElem?_append_right U];rw [show 0 + ps.length * 2 + 1 - L.flatten.length = 1 by omega]; rfl
 exact ⟨h.D.cell k, h.D.cell d, (List.getElem?_eq_some_iff.1 d).1⟩
theorem CS.put {v o u a : Value} {l m A j : LF} (h : CS okf okg C W g cap e (L ++ [[v, o]]) rest (ps ++ [(l, m)])) (k : Keep [g] W W')
  (S : Blk W' g e ((((L ++ [[v, o]]).flatten ++ rest).set (0 + ps.length * 2 + 0) u).set (0 + ps.length * 2 + 1) a)) (X : FL okf W' u A) (r : FL okg W' a j) (I : A.length = j.length) : CS okf okg C W' g cap e (L ++ [[u, a]]) rest (ps ++ [(A, j)]) := by
 have f := h.ll;simp only [List.length_append, List.length_singleton] at f;have d : ∀ c ∈ L, c.length = 2 := fun c T => h.two c Dw;have D : L.flatten.length = ps.length * 2 := by rw [CC 2 L d]; omega
 have q : (((L ++ [[v, o]]).flatten ++ rest).set (0 + ps.length * 2 + 0) u).set (0 + ps.length * 2 + 1) a = (L ++ [[u, a]]).flatten ++ rest := by
  simp only [List.flatten_append, List.flatten_cons, List.flatten_nil, List.append_nil, List.append_assoc];rw [List.set_append_right _ _ U, List.set_append_right _ _ U, show 0 + ps.length * 2 + 0 - L.flatten.length = 0 by omega, show 0 + ps.length * 2 + 1 - L.flatten.length = 1 by omega];rfl
 have z : ∀ b, okf b ∨ okg b → b ∉ [g] := fun b S t => by
  have := h.lo b S; have := h.ge; simp at t; omega
 refine ⟨h.ge, by rw [← q]; exact S, ?_, h.mx, fun c T => ?_, by simp; omega, fun i c p T n => ?_, h.lo⟩
 ·have := h.len;simp only [List.flatten_append, List.flatten_cons, List.flatten_nil, List.append_nil, List.length_append, List.length_cons, List.length_nil] at this ⊢;exact this
 ·rcases List.mem_append.1 T with T | T
  ·exact d c T
  ·simp at T; subst T; rfl
 ·by_cases F : i < L.length
  ·rw [List.getElem?_append_left F] at T;rw [List.getElem?_append_left U] at n;exact (h.rows i c p (by rw [List.getElem?_append_left F]; exact T) (by rw [List.getElem?_append_left U]; exact n)).E k (fun b S => z b (.inl S)) fun b S => z b (.inr S)
  ·have s := (List.getElem?_eq_some_iff.1 T).1;simp at s;have : i = L.length := by omega
   subst this;simp at T;have x : (ps ++ [(A, j)])[ps.length]? = some p := by rw [show ps.length = L.length by omega]; exact n
   simp at x;subst T; subst x;exact ⟨u, a, rfl, X, r, I⟩
theorem CS.push {a Q : Nat} {X : TypeId} {K : Array Value} {u v : Value} {A l : LF} (h : CS okf okg C W g cap e L rest ps) (w : C ≤ W.heap.size) (z : a = g ∨ a = W.heap.size) (S : W'.heap[a]? = some (.cells K X (0, 0))) (D : K.size = Q * 2) (j : Q ≤ maxLen)
  (o : K.toList.take ((ps.length + 1) * 2) = (L.flatten ++ rest).take (ps.length * 2) ++ [u, v]) (k : Keep [g] W W') (r : FL okf W' u A) (s : FL okg W' v l) (I : A.length = l.length) : CS okf okg C W' a Q X (L ++ [[u, v]]) (K.toList.drop ((ps.length + 1) * 2)) (ps ++ [(A, l)]) := by
 have f := h.ll;have q := h.ge
 have G : ∀ b, okf b ∨ okg b → b ∉ [g] := fun b S j => by
  have := h.lo b S; simp at j; omega
 have d : (L.flatten ++ rest).take (ps.length * 2) = L.flatten := by rw [← h.flat]; exact List.take_left
 have x : (L ++ [[u, v]]).flatten ++ K.toList.drop ((ps.length + 1) * 2) = K.toList := by
  rw [d] at o;simp only [List.flatten_append, List.flatten_cons, List.flatten_nil, List.append_nil];rw [← o, List.take_append_drop]
 refine ⟨by rcases z with rfl | rfl <;> omega, ?_, by rw [x]; simpa using D, j, fun c T => ?_, by simp; omega, fun i c p T m => ?_, h.lo⟩
 ·rw [x];show W'.heap[a]? = _;rw [S]
 ·rcases List.mem_append.1 T with T | T
  ·exact h.two c T
  ·simp at T; subst T; rfl
 ·by_cases F : i < L.length
  ·rw [List.getElem?_append_left F] at T;rw [List.getElem?_append_left U] at m;exact (h.rows i c p T m).E k (fun b S => G b (.inl S)) fun b S => G b (.inr S)
  ·have t := (List.getElem?_eq_some_iff.1 T).1;simp at t;have : i = L.length := by omega
   subst this;have n : (ps ++ [(A, l)])[ps.length]? = some p := by rw [show ps.length = L.length by omega]; exact m
   simp at n T;subst T; subst n;exact ⟨u, v, rfl, r, s, I⟩
end
end
end Go.Proofs.YtohodbnnhlddpaaGreatDoor
