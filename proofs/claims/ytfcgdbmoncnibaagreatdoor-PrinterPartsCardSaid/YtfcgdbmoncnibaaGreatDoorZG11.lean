/- Rules: pointers compared, turned into raw pointers and back, text appended, bytes read as a string. The printer: the builder. The printer's plain law: how much is written. The printer: a formula, walked. The printer: requirements and signals, walked. The printer: signals and specifications, walked. The printer: a specification, walked. The printer: an edit, walked. Conditions: none. -/
import Derived.Test.YtfcgdbmoncnibaaGreatDoorZG10
import Derived.Lib.Builder
import Derived.Lib.AppendStr
import Derived.Lib.UnsafeStr
import Derived.Laws.Externs

namespace Go.Proofs.YtfcgdbmoncnibaaGreatDoor
open Go.RowKit
set_option linter.unusedVariables false
section
attribute [local semireducible] WC AW B6 BZ B8 Cw DY By
variable {P : Program} {all : Array Oper} {Z : Fr → DS → List PanicEntry → World → Prop} {K : Fr → DS → World → Prop} {rest : List Oper} {f : Fr} {ds : DS} {w : World} {d : Nat} {ty : TypeId} {pos : String} {af : Array Edge}
theorem blk_shape {b : Nat} {T : TypeId} {L : List Value} (h : Blk w b T L) : w.shape? b = some (T, L.length) := by
 have h : w.heap[b]? = some (.cells L.toArray T (0, 0)) := h
 simp [World.shape?, h]
theorem W_toUnsafe {S D e bt : TypeId} {x : Operand} {b : Nat} {L : List Value} [hT : PtrT P S e] (hD : P.underlying D = some .unsafePointer) (hx : ev f x = .pointer (some ⟨b, 0, none⟩)) (hb : Blk w b bt L) (hl : 0 < L.length)
  (h : AW P all Z K rest (upd f d (.pointer (some ⟨b, 0, none⟩))) ds w) : AW P all Z K (⟨some d, .convert S D x, ty, pos, af, none⟩ :: rest) f ds w := by
 refine A5 rfl ?_ h
 obtain ⟨j, hj, hs⟩ := hT.info
 have hr := Lib.run_to_unsafe w ⟨b, 0, none⟩ hT.und hD hj hs (blk_shape hb) hl
 simp [execOp, hx, hr]
theorem W_fromUnsafe {S D e bt : TypeId} {x : Operand} {b : Nat} {L : List Value} [hT : PtrT P D e] (hS : P.underlying S = some .unsafePointer) (hx : ev f x = .pointer (some ⟨b, 0, none⟩)) (hb : Blk w b bt L) (hlies : liesAt P P.depth bt (L.length / P.cellsOf bt) 0 e 1 = true)
  (h : AW P all Z K rest (upd f d (.pointer (some ⟨b, 0, none⟩))) ds w) : AW P all Z K (⟨some d, .convert S D x, ty, pos, af, none⟩ :: rest) f ds w := by
 refine A5 rfl ?_ h
 obtain ⟨j, hj, hs⟩ := hT.info
 have hr := Lib.run_from_unsafe w ⟨b, 0, none⟩ hS hT.und hj (blk_shape hb) hlies
 simp [execOp, hx, hr]
theorem W_extern {g : FuncId} {xs : List Operand} {ats : Array TypeId} {vs : List Value} {v : Value} (hg : ∀ w, (callFunc g vs.toArray).run P w = .ok (.value v) w) (ha : evL f xs = vs) (h : AW P all Z K rest (upd f d v) ds w) :
  AW P all Z K (⟨some d, .call ⟨.value (.func g), xs.toArray, ats⟩, ty, pos, af, none⟩ :: rest) f ds w := by
 refine A5 rfl ?_ h
 rw [evL_map] at ha
 have e : Array.map (ev f) xs.toArray = vs.toArray := by rw [← ha]; simp
 have hg' := hg w
 rw [← e] at hg'
 simp only [execOp, resolve, ev, Deferred.ofValue, Sem.run_bind, Sem.run_pure, Result.andThen_ok]
 simp [invoke] at hg' ⊢
 rw [hg']
theorem W_appendS {T S e : TypeId} {s x : Operand} {B n : Nat} {v : Value} {xs : List Value} {t : List UInt8} [hT : SlT P T e 1 1 (.int .u8 0)] (hS : P.underlying S = some .string) (hv : ev f s = v) (hx : ev f x = AL t)
  (hown : w.ownsRow B e 1 v n xs) (hb : n + t.length ≤ 140737488355328) (hB : B ≤ w.heap.size)
  (h : ∀ v' w', w'.ownsRow B e 1 v' (n + t.length) (xs ++ Cv t) → Keep v.ownBlock.toList w w' → (v'.ownBlock = v.ownBlock ∨ ∀ y, v'.ownBlock = some y → w.heap.size ≤ y) → (v' = .slice none 0 0 ∨ v ≠ .slice none 0 0 ∨ t ≠ []) → AW P all Z K rest (upd f d v') ds w') :
  AW P all Z K (⟨some d, .call ⟨.builtin .append, #[s, x], #[T, S]⟩, ty, pos, af, none⟩ :: rest) f ds w := by
 obtain ⟨i, hi, hz, hsi, hby⟩ := hT.out
 have hsz : (⟨t.toArray⟩ : ByteArray).size = t.length := rfl
 have h63 : n + (⟨t.toArray⟩ : ByteArray).size ≤ maxLen := by rw [hsz]; simp only [maxLen]; omega
 obtain ⟨v', w', hr, ho, hg, hnil⟩ := Lib.run_append_own_string (P := P) w B T S ty e i hT.und hS hi hz hsi hby v n xs hown ⟨t.toArray⟩ h63 (by rw [hsz]; exact hb) hB
 have hblk : v'.ownBlock = v.ownBlock ∨ ∀ y, v'.ownBlock = some y → w.heap.size ≤ y := by
  rcases hown.2 with ⟨rfl, h0⟩ | ⟨g, cap, cur, rfl, hbg, hg, hnc, hcm, hcs, htake⟩
  ·obtain ⟨v2, w2, hr2, ho2, _, _⟩ := Lib.run_append_own_string (P := P) w w.heap.size T S ty e i hT.und hS hi hz hsi hby _ n xs ⟨hown.1, .inl ⟨rfl, h0⟩⟩ ⟨t.toArray⟩ h63 (by rw [hsz]; exact hb) (Nat.le_refl _)
   rw [hr] at hr2
   injection hr2 with e1 e2
   subst e1; subst e2
   refine .inr fun y hy => ?_
   rcases ho2.2 with ⟨rfl, _⟩ | ⟨g, cap, cur, rfl, hbg, _⟩
   ·cases hy
   ·cases hy; exact hbg
  ·have hcs' : cur.size = cap := by simpa using hcs
   by_cases hroom : n + (⟨t.toArray⟩ : ByteArray).size ≤ cap
   ·have hr2 := Lib.run_append_room_string (P := P) w T S ty e i hT.und hS hi hsi g n cap cur hg ⟨t.toArray⟩ hroom (by omega)
    rw [hr] at hr2
    injection hr2 with e1 e2
    exact .inl (by rw [e1]; rfl)
   ·have holds : ∀ j u, xs[j]? = some u → w.cell? ((⟨g, 0, none⟩ : Addr).add j) = some u := hown.cells (g := g) rfl
    have hr2 := Lib.run_append_grow_string (P := P) w T S ty e i (.int .u8 0) hT.und hS hi hz ⟨g, 0, none⟩ n cap xs (by rw [hsi]; exact hown.1) holds ⟨t.toArray⟩ (by omega) (by rw [hsz]; omega) (by rw [hby]; exact growslice_fits (by omega) (by rw [hsz]; omega))
    rw [hr] at hr2
    injection hr2 with e1 e2
    refine .inr fun y hy => ?_
    rw [e1] at hy
    cases hy; exact Nat.le_refl _
 refine A5 (v := v') (w' := w') rfl ?_ (h v' w' ?_ (Keep.of_grown hg fun h => h.elim) hblk ?_)
 ·simp [execOp, resolve, invoke, builtin, hv, hx, hr]
 ·have e1 : Lib.strCells ⟨t.toArray⟩ = Cv t := by simp [Lib.strCells, Cv, enc8]
  rw [← e1]; exact ho
 ·by_cases h1 : v' = .slice none 0 0
  ·exact .inl h1
  ·by_cases h2 : v = .slice none 0 0
   ·refine .inr (.inr fun h3 => h1 (hnil.2 ⟨h2, ?_⟩))
    rw [hsz, h3]; rfl
   ·exact .inr (.inl h2)
theorem W_sliceDataNil {T : TypeId} {s : Operand} {n c : Nat} (hv : ev f s = .slice none n c) (h : AW P all Z K rest (upd f d (.pointer none)) ds w) :
  AW P all Z K (⟨some d, .call ⟨.builtin .unsafeSliceData, #[s], #[T]⟩, ty, pos, af, none⟩ :: rest) f ds w := by
 refine A5 rfl ?_ h
 simp [execOp, resolve, invoke, builtin, hv, Lib.run_unsafeSliceData_nil]
theorem W_sliceData {T : TypeId} {s : Operand} {a : Addr} {n c : Nat} (hv : ev f s = .slice (some a) n c) (hc : c ≠ 0) (h : AW P all Z K rest (upd f d (.pointer (some a))) ds w) :
  AW P all Z K (⟨some d, .call ⟨.builtin .unsafeSliceData, #[s], #[T]⟩, ty, pos, af, none⟩ :: rest) f ds w := by
 refine A5 rfl ?_ h
 simp [execOp, resolve, invoke, builtin, hv, Lib.run_unsafeSliceData_row w _ _ a n c hc]
theorem W_unsafeStrNil {T S : TypeId} {s x : Operand} {p : Option Addr} (hv : ev f s = .pointer p) (hx : ev f x = .int .i64 0) (h : AW P all Z K rest (upd f d (AL [])) ds w) :
  AW P all Z K (⟨some d, .call ⟨.builtin .unsafeString, #[s, x], #[T, S]⟩, ty, pos, af, none⟩ :: rest) f ds w := by
 refine A5 rfl ?_ h
 simp [execOp, resolve, invoke, builtin, hv, hx, Lib.run_unsafeString_none]
 rfl
theorem W_unsafeStr {T S e : TypeId} {s x : Operand} {g : Nat} {t : List UInt8} {cur : List Value} (hp : P.underlying T = some (.pointer e)) (h1 : P.cellsOf e = 1) (hv : ev f s = .pointer (some ⟨g, 0, none⟩)) (hx : ev f x = .int .i64 (t.length : Int))
  (ht : t ≠ []) (hb : Blk w g e cur) (hl : t.length ≤ cur.length) (h63 : t.length ≤ 9223372036854775807) (hc : cur.take t.length = Cv t) (h : ∀ w', Keep [g] w w' → AW P all Z K rest (upd f d (AL t)) ds w') :
  AW P all Z K (⟨some d, .call ⟨.builtin .unsafeString, #[s, x], #[T, S]⟩, ty, pos, af, none⟩ :: rest) f ds w := by
 have hcell : ∀ j y, t[j]? = some y → w.cell? ((⟨g, 0, none⟩ : Addr).add j) = some (.int .u8 y.toNat) := by
  intro j y hy
  have hj := (List.getElem?_eq_some_iff.1 hy).1
  have e1 : (Cv t)[j]? = some (enc8 y) := by simp [Cv, hy]
  rw [← hc, List.getElem?_take_of_lt hj] at e1
  have h3 := hb.cells j _ e1
  rw [Nat.zero_add] at h3
  rw [Addr.add_lit, Nat.zero_add]
  exact h3
 have hr := Lib.run_unsafeString_row (P := P) w T S ty e hp h1 g cur.length (blk_shape hb) t ht hl h63 hcell
 have k : Keep [g] w (w.freeze ⟨g, 0, none⟩ t.length) := by
  unfold World.freeze
  split
  ·exact Keep.refl _ _
  ·refine ⟨rfl, rfl, rfl, by simp, fun b hb hx => ?_, fun h => h.elim⟩
   simp only [Array.getElem?_modify]
   rw [if_neg (fun e => hx (by simp [e]))]
 refine A5 rfl ?_ (h _ k)
 simp [execOp, resolve, invoke, builtin, hv, hx, hr]
end
theorem noEsc_run (v : Value) (w : World) : (callFunc 160 #[v]).run Tryz.prog w = .ok (.value v) w := by
 rw [run_callFunc_extern Tryz.func160 (by kernel_rfl) (by kernel_rfl) (by kernel_rfl) (e := Extern.AbiNoEscape.same) (by kernel_rfl)]
 rfl
instance : PtrT Tryz.prog 115 118 := ptrT_of Tryz.underlying115 (by kernel_rfl)
end Go.Proofs.YtfcgdbmoncnibaaGreatDoor
namespace Go.Proofs.YtfcgdbmoncnibaaGreatDoor
open Go.RowKit
set_option linter.unusedVariables false
structure WrB (W : World) (p : Nat) (v : Value) (t : List UInt8) : Prop where
 blk : ∃ a, (a = none ∨ a = some ⟨p, 0, none⟩) ∧ Blk W p 120 [.pointer a, v]
 own : W.ownsRow (p + 1) 5 1 v t.length (Cv t)
 nz : v = .slice none 0 0 ∨ t ≠ []
structure Wrote (p : Nat) (v v' : Value) (w w' : World) : Prop where
 keep : Keep (p :: v.ownBlock.toList) w w'
 blk : ∀ y, v'.ownBlock = some y → v.ownBlock = some y ∨ w.heap.size ≤ y
theorem Wrote.refl (p : Nat) (v : Value) (w : World) : Wrote p v v w w := ⟨Keep.refl _ _, fun _ h => .inl h⟩
theorem Wrote.trans {p : Nat} {v v' v'' : Value} {a b c : World} (h : Wrote p v v' a b) (k : Wrote p v' v'' b c) : Wrote p v v'' a c := by
 refine ⟨h.keep.trans k.keep fun x hx hlt => ?_, fun y hy => ?_⟩
 ·rcases List.mem_cons.1 hx with rfl | hx
  ·simp
  ·rcases h.blk x (Option.mem_toList.1 hx) with h1 | h1
   ·simp [h1]
   ·omega
 ·rcases k.blk y hy with h1 | h1
  ·exact h.blk y h1
  ·exact .inr (Nat.le_trans h.keep.size h1)
theorem Wrote.ext {p : Nat} {v v' : Value} {a b c : World} (h : Wrote p v v' a b) (k : Ext b c) : Wrote p v v' a c := ⟨h.keep.ext k, h.blk⟩
theorem WrB.keep {X : List Nat} {w w' : World} {p : Nat} {v : Value} {t : List UInt8} (h : WrB w p v t) (k : Keep X w w') (h1 : p ∉ X) (h2 : ∀ y, v.ownBlock = some y → y ∉ X) : WrB w' p v t := by
 obtain ⟨⟨a, ha, hb⟩, ho, hn⟩ := h
 exact ⟨⟨a, ha, hb.keep k h1⟩, Ax ho k h2, hn⟩
theorem WrB.ext {w w' : World} {p : Nat} {v : Value} {t : List UInt8} (h : WrB w p v t) (k : Ext w w') : WrB w' p v t := h.keep k (by simp) (by simp)
theorem WrB.lt {w : World} {p : Nat} {v : Value} {t : List UInt8} (h : WrB w p v t) : p < w.heap.size := by
 obtain ⟨⟨a, _, hb⟩, _⟩ := h
 exact hb.lt
theorem WrB.ge {w : World} {p y : Nat} {v : Value} {t : List UInt8} (h : WrB w p v t) (hy : v.ownBlock = some y) : p < y ∧ y < w.heap.size := by
 have := BM h.own hy
 exact ⟨by omega, this.2⟩
theorem copyCheck_ok (w : World) (p : Nat) (v : Value) (a : Option Addr) (ha : a = none ∨ a = some ⟨p, 0, none⟩) (hb : Blk w p 120 [.pointer a, v]) :
  Fn Tryz.prog 153 [pt p] w fun _ w' => Blk w' p 120 [pt p, v] ∧ Keep [p] w w' := by
 refine Ab Tryz.func153 rfl Tryz.ntmps153 (Nat.le_of_ble_eq_true rfl) (by kernel_rfl) ?_
 repeat refine nx rfl ?_
 rcases ha with rfl | rfl
 ·have h0 : w.cell? ⟨p, 0 + 0, none⟩ = some (.pointer none) := hb.cell rfl
  refine AA (AQ rfl (AH rfl (AD rfl (AG rfl (Blk.cell (by assumption) (by rfl)) ?_))))
  refine W_ptrNil rfl ?_
  repeat refine nx rfl ?_
  refine AA (AQ rfl (AQ rfl ?_))
  refine W_toUnsafe (by kernel_rfl) rfl hb (Nat.zero_lt_succ _) ?_
  refine W_extern (vs := [pt p]) (fun W => noEsc_run _ W) rfl ?_
  refine W_fromUnsafe (by kernel_rfl) rfl hb (by kernel_rfl) ?_
  refine AH rfl (AD rfl ?_)
  refine Ao rfl rfl rfl hb (by simp) (fun w2 p2 => ?_)
  repeat refine nx rfl ?_
  exact A1 rfl ⟨p2.blk, p2.keep⟩
 ·have h0 : w.cell? ⟨p, 0 + 0, none⟩ = some (pt p) := hb.cell rfl
  refine AA (AQ rfl (AH rfl (AD rfl (AG rfl (Blk.cell (by assumption) (by rfl)) ?_))))
  refine W_ptrNil rfl ?_
  repeat first | refine nx rfl ?_ | refine nf rfl ?_
  (refine AA (AQ rfl (AH rfl (AD rfl (AG rfl (Blk.cell (by assumption) (by rfl)) ?_)))) <;> refine AQ rfl ?_)
  refine W_ptrNeqSame rfl rfl ?_
  repeat first | refine nx rfl ?_ | refine nf rfl ?_
  exact A1 rfl ⟨hb, Keep.refl _ _⟩
theorem writeStr_ok (w : World) (p : Nat) (v : Value) (t s : List UInt8) (h : WrB w p v t) (hl : t.length + s.length ≤ 140737488355328) :
  Fn Tryz.prog 122 [pt p, AL s] w fun _ w' => ∃ v', WrB w' p v' (t ++ s) ∧ Wrote p v v' w w' := by
 obtain ⟨⟨a, ha, hb⟩, ho, hn⟩ := id h
 refine Ab Tryz.func122 rfl Tryz.ntmps122 (Nat.le_of_ble_eq_true rfl) (by kernel_rfl) ?_
 repeat refine nx rfl ?_
 refine AA (AC (AF rfl (AC (Az ?_))))
 repeat refine nx rfl ?_
 refine AA (AQ rfl ?_)
 refine AS (copyCheck_ok w p v a ha hb) rfl ?_
 rintro _ w1 ⟨b1, k1⟩
 have h1 : w1.cell? ⟨p, 0 + 1, none⟩ = some v := b1.cell rfl
 have z1 := k1.size
 have hne : ∀ y, v.ownBlock = some y → y ≠ p := fun y hy e => by have := h.ge hy; omega
 have o1 := Ax ho k1 fun y hy hx => hne y hy (by simpa using hx)
 repeat refine nx rfl ?_
 (refine AA (AQ rfl (AQ rfl (AH rfl (AD rfl (AG rfl (Blk.cell (by assumption) (by rfl)) ?_))))) <;> refine AU rfl ?_)
 refine W_appendS (v := v) (by kernel_rfl) rfl rfl o1 hl (by have := h.lt; omega) (fun v2 w2 o2 k2 hv2 hz2 => ?_)
 have b2 := b1.keep k2 (fun hx => hne p (Option.mem_toList.1 hx) rfl)
 refine AH rfl (AD rfl ?_)
 have hv1 : v2.oneCell' = true := by rcases o2.2 with ⟨rfl, _⟩ | ⟨_, _, _, rfl, _⟩ <;> rfl
 refine Ao rfl rfl hv1 b2 (by simp) (fun w3 p3 => ?_)
 have hne2 : ∀ y, v2.ownBlock = some y → y ≠ p := fun y hy => by
  have := BM o2 hy
  omega
 have k13 : Wrote p v v2 w w3 := by
  refine ⟨((k1.mono (Y := p :: v.ownBlock.toList) (by simp)).trans k2 (fun x hx _ => by simp [hx])).trans p3.keep (by simp), ?_⟩
  ·intro y hy
   rcases hv2 with e | e
   ·exact .inl (by rw [← e]; exact hy)
   ·exact .inr (by have := e y hy; omega)
 repeat refine nx rfl ?_
 refine AA (AU rfl (Au rfl (AC (AF rfl (AC (Az ?_))))))
 repeat refine nx rfl ?_
 refine fin_ret2 rfl ⟨v2, ⟨⟨some ⟨p, 0, none⟩, .inr rfl, p3.blk⟩, ?_, ?_⟩, k13⟩
 ·rw [List.length_append, cells8_append]
  exact Ax o2 p3.keep fun y hy hx => hne2 y hy (by simpa using hx)
 ·rcases hz2 with e | e | e
  ·exact .inl e
  ·rcases hn with e2 | e2
   ·exact absurd e2 e
   ·exact .inr (by simp [e2])
  ·exact .inr (by simp [e])
theorem put_ok (w : World) (p : Nat) (v sv : Value) (t : List UInt8) (parts : List (List UInt8)) (h : WrB w p v t) (hS : Sl (fun b => b < w.heap.size ∧ b ≠ p ∧ v.ownBlock ≠ some b) w sv parts.length (parts.map AL)) (hl : t.length + parts.flatten.length ≤ 140737488355328) :
  Fn Tryz.prog 75 [pt p, sv] w fun _ w' => ∃ v', WrB w' p v' (t ++ parts.flatten) ∧ Wrote p v v' w w' := by
 obtain ⟨a, cap, rfl, hnc, hcm, _, hq⟩ := hS
 have hbd : parts.length ≤ 9223372036854775807 := by omega
 refine Ab Tryz.func75 rfl Tryz.ntmps75 (Nat.le_of_ble_eq_true rfl) (by kernel_rfl) ?_
 repeat refine nx rfl ?_
 refine AA (Ae rfl (As rfl (AF rfl ?_)))
 repeat refine nx rfl ?_
 refine BJ (α := Nat × Value) (fun x => [(0, pt p), (6, .slice a parts.length cap), (7, .int .i64 (parts.length : Int)), (8, .int .i64 (x.1 : Int))]) (fun x W => x.1 ≤ parts.length ∧ WrB W p x.2 (t ++ (parts.take x.1).flatten) ∧ Wrote p v x.2 w W) (fun x => parts.length - x.1) (0, v)
  ⟨rfl, rfl, rfl, rfl, trivial⟩ ⟨Nat.zero_le _, by simpa using h, Wrote.refl _ _ _⟩ ?_
 rintro ⟨i, v1⟩ w1 f1 ⟨hi, h1, k1⟩
 simp only at hi h1 k1 ⊢
 repeat refine nx rfl ?_
 by_cases hlt : i < parts.length
 ·refine AA (BC rfl rfl (by omega) ?_)
  repeat refine nx rfl ?_
  rcases hq with h0 | ⟨b, o, rfl, hb, hcl⟩
  ·omega
  have hs : parts[i]? = some parts[i] := List.getElem?_eq_getElem hlt
  generalize parts[i] = s at hs
  have l0 : w1.cell? ⟨b, o + i, none⟩ = some (AL s) := k1.keep.cell (hcl i _ (by simp [hs])) (by
   simp only [List.mem_cons, Option.mem_toList, not_or]
   exact ⟨hb.2.1, hb.2.2⟩)
  have hfl : (parts.take (i + 1)).flatten = (parts.take i).flatten ++ s := by
   rw [List.take_add_one, hs]; simp
  have hle : (parts.take (i + 1)).flatten.length ≤ parts.flatten.length := by
   have e : parts.flatten = (parts.take (i + 1)).flatten ++ (parts.drop (i + 1)).flatten := by rw [← List.flatten_append, List.take_append_drop]
   rw [e, List.length_append]; omega
  rw [hfl, List.length_append] at hle
  (refine AA (W_idx1 rfl rfl rfl (by omega) (AG rfl (by assumption) ?_)) <;> refine AC (AU rfl ?_))
  repeat refine nx rfl ?_
  refine AA (AQ rfl (AH rfl (AD rfl (AU rfl ?_))))
  refine AS (writeStr_ok w1 p v1 _ s h1 (by rw [List.length_append]; omega)) rfl ?_
  rintro _ w2 ⟨v2, h2, k2⟩
  repeat refine nx rfl ?_
  (refine AA (BK rfl rfl (by first | exact Am (by omega) (by omega) | exact At (by omega) (by omega) | exact Al (by omega) (by omega)) ?_) <;> refine AF rfl ?_)
  repeat refine nx rfl ?_
  refine ⟨(i + 1, v2), ⟨rfl, ⟨rfl, rfl, rfl, ?_, trivial⟩, ⟨hlt, ?_, k1.trans k2⟩⟩, by simp only; omega⟩
  ·show Value.int .i64 ((i : Int) + 1) = _
   rw [Int.natCast_add]; rfl
  ·simp only
   rw [hfl, ← List.append_assoc]
   exact h2
 ·refine AA (BA rfl rfl (by omega) ?_)
  repeat first | refine nx rfl ?_ | refine nf rfl ?_
  refine A1 rfl ⟨v1, ?_, k1⟩
  rw [List.take_of_length_le (by omega)] at h1
  exact h1
theorem bstring_ok (w : World) (p : Nat) (v : Value) (t : List UInt8) (h : WrB w p v t) (hl : t.length ≤ 140737488355328) :
  Fn Tryz.prog 73 [pt p] w fun u w' => u = AL t ∧ Keep v.ownBlock.toList w w' := by
 obtain ⟨⟨a, ha, hb⟩, ho, hn⟩ := id h
 refine Ab Tryz.func73 rfl Tryz.ntmps73 (Nat.le_of_ble_eq_true rfl) (by kernel_rfl) ?_
 repeat refine nx rfl ?_
 refine AA (AC (AU rfl ?_))
 repeat refine nx rfl ?_
 have hne : p ∉ v.ownBlock.toList := fun hx => by have := h.ge (Option.mem_toList.1 hx); omega
 have hsl : v = .slice none 0 0 ∧ t = [] ∨ t ≠ [] ∧ ∃ g c cur, v = .slice (some ⟨g, 0, none⟩) t.length c ∧ Blk w g 5 cur ∧ t.length ≤ cur.length ∧ c ≠ 0 ∧ cur.take t.length = Cv t := by
  rcases ho.2 with ⟨rfl, h0⟩ | ⟨g, c, cur, rfl, hbg, hg, h1, h2, h3, h4⟩
  ·exact .inl ⟨rfl, List.length_eq_zero_iff.1 h0⟩
  ·have ht : t ≠ [] := by
    rcases hn with e | e
    ·cases e
    ·exact e
   have hp : 0 < t.length := List.length_pos_iff.2 ht
   have h3' : cur.size = c := by simpa using h3
   refine .inr ⟨ht, g, c, cur.toList, rfl, by simpa [Blk] using hg, by simp; omega, by omega, ?_⟩
   rw [← h4, Nat.mul_one]
 refine Bb (.read 0 (.read 1 (.read 2 (.read 3 (.read 5 (.read 6 (.read 7 (.read 8 (.read 9 (.alt 4 (.alt 10 (.read 11 .done) .stop) .stop)))))))))) BP (by kernel_rfl) (fun wd kd ed => ⟨Keep v.ownBlock.toList wd, ?_, ?_⟩)
 ·exact Keep.refl _ _
 have fc : ∀ W, Keep v.ownBlock.toList wd W → W.cell? ⟨p, 0 + 1, none⟩ = some v := fun W k => ((hb.keep kd (by simp)).keep k hne).cell rfl
 rcases hsl with ⟨rfl, rfl⟩ | ⟨ht, g, c, cur, rfl, hg, hlc, hc0, hcu⟩
 ·refine D_R rfl rfl (fun W hW => AQ rfl Z3) (D_R rfl rfl (fun W hW => AH rfl Z3) (D_R rfl rfl (fun W hW => AD rfl Z3) (D_R rfl rfl (fun W hW => AG rfl (fc W hW) Z3) (D_R rfl rfl (fun W hW => AQ rfl Z3) (D_R rfl rfl (fun W hW => AH rfl Z3) (D_R rfl rfl (fun W hW => AD rfl Z3) (D_R rfl rfl (fun W hW => AG rfl (fc W hW) Z3) (D_R rfl rfl (fun W hW => As rfl Z3) ?_))))))))
  refine D_E rfl ?_
  refine W_sliceDataNil rfl ?_
  refine AJ ⟨_, fun _ h => h, Keep.refl _ _, ?_⟩
  refine D_E rfl ?_
  refine W_unsafeStrNil rfl rfl ?_
  refine AJ ⟨_, fun _ h => h, Keep.refl _ _, ?_⟩
  refine D_R rfl rfl (fun W hW => AC (AU rfl Z3)) (A8 ?_)
  repeat refine nx rfl ?_
  exact AO rfl ⟨rfl, kd.any⟩
 ·refine D_R rfl rfl (fun W hW => AQ rfl Z3) (D_R rfl rfl (fun W hW => AH rfl Z3) (D_R rfl rfl (fun W hW => AD rfl Z3) (D_R rfl rfl (fun W hW => AG rfl (fc W hW) Z3) (D_R rfl rfl (fun W hW => AQ rfl Z3) (D_R rfl rfl (fun W hW => AH rfl Z3) (D_R rfl rfl (fun W hW => AD rfl Z3) (D_R rfl rfl (fun W hW => AG rfl (fc W hW) Z3) (D_R rfl rfl (fun W hW => As rfl Z3) ?_))))))))
  refine D_E rfl ?_
  refine W_sliceData rfl hc0 ?_
  refine AJ ⟨_, fun _ h => h, Keep.refl _ _, ?_⟩
  refine D_E rfl ?_
  refine W_unsafeStr (by kernel_rfl) (by kernel_rfl) rfl rfl ht (hg.keep kd (by simp)) hlc (by omega) hcu (fun w3 k3 => ?_)
  refine AJ ⟨_, fun _ h => h, k3, ?_⟩
  refine D_R rfl rfl (fun W hW => AC (AU rfl Z3)) (A8 ?_)
  repeat refine nx rfl ?_
  exact AO rfl ⟨rfl, kd.any.trans k3 (fun x hx _ => hx)⟩
end Go.Proofs.YtfcgdbmoncnibaaGreatDoor
namespace Go.Proofs.YtfcgdbmoncnibaaGreatDoor
set_option linter.unusedVariables false
theorem okF_eq (f : Fml) : okF f = (Cu f.op f.name f.val f.bound f.args.length && okL f.args) := by cases f; simp [okF, Fml.op, Fml.name, Fml.val, Fml.bound, Fml.args]
def pcOk : Pc → Bool
 | .txt _ => true
 | .sub f _ => okF f
def DD : Pc → Nat
 | .txt t => t.length
 | .sub f _ => 44 * szF f - 22
def pcWt : Pc → Nat
 | .txt _ => 1
 | .sub f _ => 8 * szF f - 4
def pcFit : Pc → Prop
 | .txt _ => True
 | .sub f n => n ≤ 9 ∧ szF f ≤ 1000000
def CZ (g : Pc → Nat) (ps : List Pc) : Nat := (ps.map g).sum
theorem Cl (g : Pc → Nat) (a b : List Pc) : CZ g (a ++ b) = CZ g a + CZ g b := by simp [CZ]
theorem sumP_rev (g : Pc → Nat) (a : List Pc) : CZ g a.reverse = CZ g a := by simp [CZ, List.map_reverse, List.sum_reverse]
theorem Cs (g : Pc → Nat) (p : Pc) (a : List Pc) : CZ g (p :: a) = g p + CZ g a := by simp [CZ]
theorem sumP_nil (g : Pc → Nat) : CZ g [] = 0 := rfl
theorem wt_argP (next : Nat) (sg : List UInt8) : ∀ l, CZ pcWt (argP next sg l) + 3 * l.length ≤ 8 * szL l
 | [] => by simp [argP, CZ]
 | a :: l => by
  have := wt_argP next sg l
  have := szF_pos a
  simp only [argP, Cs, szL, pcWt, List.length_cons]; omega
theorem pot_argP (next : Nat) (sg : List UInt8) (hs : sg.length ≤ 20) : ∀ l, CZ DD (argP next sg l) + 2 * l.length ≤ 44 * szL l
 | [] => by simp [argP, CZ]
 | a :: l => by
  have := pot_argP next sg hs l
  have := szF_pos a
  simp only [argP, Cs, szL, DD, List.length_cons]; omega
theorem ok_argP (next : Nat) (sg : List UInt8) : ∀ l, (argP next sg l).all pcOk = okL l
 | [] => by simp [argP, okL]
 | a :: l => by simp [argP, okL, pcOk, ok_argP next sg l]
theorem sgT_len {op v b : Int} {nm : List UInt8} {k : Nat} (h : Cu op nm v b k = true) : (sgT op nm v b).length ≤ 20 := by
 obtain ⟨s, hs, _, _, h1, h2, h3, h4, h5, _⟩ := node_parts h
 have hsg : s.sign.length ≤ 5 ∧ s.val ≤ 9999 ∧ s.bound ≤ 9999 := by
  rcases op_cases hs with h | h | h | h | h | h | h | h | h | h | h | h | h | h | h | h | h | h | h <;> rw [h] at hs <;> simp [Bc, styL, List.lookup] at hs <;> subst hs <;> decide
 have esd : Bh op = s := by unfold Bh; rw [hs]; rfl
 have hv : (CI v).length ≤ 4 := digs_len (by omega)
 have hb : (CI b).length ≤ 4 := digs_len (by omega)
 unfold sgT
 rw [esd]
 split
 ·rename_i h0
  have := (Bf (h5 h0)).2.1
  split
  ·omega
  ·simp; omega
 split
 ·simp; omega
 split
 ·split <;> simp
 split
 ·split
  ·simp; omega
  ·simp; omega
 ·omega
theorem wt_pcs {f : Fml} (s : Sty) (n : Nat) : CZ pcWt (pcs s n f) < pcWt (.sub f n) := by
 have h1 : CZ pcWt (Cx s n) ≤ 1 := by unfold Cx; split <;> simp [CZ, pcWt]
 have h2 : CZ pcWt (DJ s n) ≤ 1 := by unfold DJ; split <;> simp [CZ, pcWt]
 have h3 : CZ pcWt (CV (sgT f.op f.name f.val f.bound) f.args.length) ≤ 1 := by unfold CV; split <;> simp [CZ, pcWt]
 have h4 := szF_eq f
 unfold pcs
 rw [Cl, Cl, Cl]
 have h5 : CZ pcWt (CX s.first s.next (sgT f.op f.name f.val f.bound) f.args) ≤ 8 * szL f.args := by
  cases f.args with
  | nil => simp [CX, CZ]
  | cons a l =>
   have := wt_argP s.next (sgT f.op f.name f.val f.bound) l
   have := szF_pos a
   simp only [CX, Cs, szL, pcWt]; omega
 simp only [pcWt]
 omega
theorem pot_pcs {f : Fml} {s : Sty} {n : Nat} (h : Cu f.op f.name f.val f.bound f.args.length = true) : CZ DD (pcs s n f) ≤ DD (.sub f n) := by
 have hg := sgT_len h
 have h1 : CZ DD (Cx s n) ≤ 1 := by unfold Cx; split <;> simp [CZ, DD]
 have h2 : CZ DD (DJ s n) ≤ 1 := by unfold DJ; split <;> simp [CZ, DD]
 have h4 := szF_eq f
 unfold pcs
 generalize sgT f.op f.name f.val f.bound = sg at hg ⊢
 rw [Cl, Cl, Cl]
 have h5 : CZ DD (CV sg f.args.length) + CZ DD (CX s.first s.next sg f.args) ≤ 44 * szL f.args + 20 := by
  cases f.args with
  | nil => simp [CX, CV, CZ, DD]; omega
  | cons a l =>
   have := pot_argP s.next sg hg l
   have := szF_pos a
   have h6 : CZ DD (CV sg (a :: l).length) ≤ 20 := by unfold CV; split <;> simp [CZ, DD] <;> omega
   simp only [CX, Cs, szL, DD]; omega
 simp only [DD]
 omega
theorem ok_pcs (f : Fml) (s : Sty) (n : Nat) : (pcs s n f).all pcOk = okL f.args := by
 have h1 : (Cx s n).all pcOk = true := by unfold Cx; split <;> simp [pcOk]
 have h2 : (DJ s n).all pcOk = true := by unfold DJ; split <;> simp [pcOk]
 have h3 : ∀ sg k, (CV sg k).all pcOk = true := fun sg k => by unfold CV; split <;> simp [pcOk]
 unfold pcs
 rw [List.all_append, List.all_append, List.all_append, h1, h2, h3]
 cases f.args with
 | nil => simp [CX, okL]
 | cons a l => simp [CX, okL, pcOk, ok_argP]
theorem fit_pcs {f : Fml} {s : Sty} {n : Nat} (hs : Bc f.op = some s) (hz : szF f ≤ 1000000) : ∀ p ∈ pcs s n f, pcFit p := by
 have hlv : s.first ≤ 9 ∧ s.next ≤ 9 := by
  rcases op_cases hs with h | h | h | h | h | h | h | h | h | h | h | h | h | h | h | h | h | h | h <;> rw [h] at hs <;> simp [Bc, styL, List.lookup] at hs <;> subst hs <;> decide
 have h4 := szF_eq f
 have hA : ∀ l : List Fml, szL l ≤ 1000000 → ∀ sg, ∀ p ∈ argP s.next sg l, pcFit p := by
  intro l
  induction l with
  | nil => intro _ sg p hp; cases hp
  | cons a l ih =>
   intro hl sg p hp
   simp only [szL] at hl
   rcases List.mem_cons.1 hp with rfl | hp
   ·trivial
   rcases List.mem_cons.1 hp with rfl | hp
   ·exact ⟨hlv.2, by omega⟩
   ·exact ih (by omega) sg p hp
 intro p hp
 unfold pcs at hp
 rcases List.mem_append.1 hp with hp | hp
 ·rcases List.mem_append.1 hp with hp | hp
  ·rcases List.mem_append.1 hp with hp | hp
   ·unfold Cx at hp; split at hp <;> simp at hp; subst hp; trivial
   ·unfold CV at hp; split at hp <;> simp at hp; subst hp; trivial
  ·generalize f.args = l at hp h4
   cases l with
   | nil => cases hp
   | cons a l =>
    simp only [szL] at h4
    rcases List.mem_cons.1 hp with rfl | hp
    ·exact ⟨hlv.1, by omega⟩
    ·exact hA l (by omega) _ p hp
 ·unfold DJ at hp; split at hp <;> simp at hp; subst hp; trivial
theorem sub_pcs {f : Fml} {s : Sty} {n m : Nat} {a : Fml} (h : Pc.sub a m ∈ pcs s n f) : a ∈ f.args := by
 have hA : ∀ (l : List Fml) nx sg, Pc.sub a m ∈ argP nx sg l → a ∈ l := by
  intro l nx sg
  induction l with
  | nil => intro h; cases h
  | cons c l ih =>
   intro h
   rcases List.mem_cons.1 h with e | h
   ·cases e
   rcases List.mem_cons.1 h with e | h
   ·cases e; simp
   ·simp [ih h]
 unfold pcs at h
 rcases List.mem_append.1 h with h | h
 ·rcases List.mem_append.1 h with h | h
  ·rcases List.mem_append.1 h with h | h
   ·unfold Cx at h; split at h <;> simp at h
   ·unfold CV at h; split at h <;> simp at h
  ·generalize f.args = l at h ⊢
   cases l with
   | nil => cases h
   | cons c l =>
    rcases List.mem_cons.1 h with e | h
    ·cases e; simp
    ·simp [hA l _ _ h]
 ·unfold DJ at h; split at h <;> simp at h
theorem out_sum : ∀ {ps : List Pc}, (∀ p ∈ ps, (outP p).length ≤ DD p) → (ps.flatMap outP).length ≤ CZ DD ps
 | [], _ => by simp
 | p :: ps, h => by
  have h1 := h p (by simp)
  have h2 := out_sum fun q hq => h q (List.mem_cons_of_mem p hq)
  rw [List.flatMap_cons, List.length_append, Cs]; omega
theorem prF_len : ∀ (N : Nat) (f : Fml), szF f ≤ N → okF f = true → ∀ n, (prF n f).length ≤ 44 * szF f - 22
 | 0, f, hN, _, _ => by have := szF_pos f; omega
 | N + 1, f, hN, hok, n => by
  rw [okF_eq, Bool.and_eq_true] at hok
  obtain ⟨s, hs, _⟩ := node_parts hok.1
  rw [← out_pcs hs n]
  refine Nat.le_trans (out_sum fun p hp => ?_) (pot_pcs hok.1)
  cases p with
  | txt t => exact Nat.le_refl _
  | sub a m =>
   have hm := sub_pcs hp
   have h1 := szL_mem hm
   have h2 := szF_eq f
   exact prF_len N a (by omega) (Bs hok.2 _ hm) m
end Go.Proofs.YtfcgdbmoncnibaaGreatDoor
namespace Go.Proofs.YtfcgdbmoncnibaaGreatDoor
open Go.RowKit
set_option linter.unusedVariables false
theorem PS.keep {C B : Nat} {v : Value} {L : List (List Value)} {ps : List Pc} {X : List Nat} {W W' : World} (h : PS C B v L ps W) (k : Keep X W W') (h1 : ∀ y, v.ownBlock = some y → y ∉ X) (h2 : ∀ b, b < C → b ∉ X) : PS C B v L ps W' :=
 ⟨Ax h.own k h1, h.rs.keep k h2, h.le⟩
theorem PS.cut {C B n cap : Nat} {a : Option Addr} {L : List (List Value)} {ps : List Pc} {c : List Value} {q : Pc} {W : World} (h : PS C B (.slice a n cap) (L ++ [c]) (ps ++ [q]) W) : PS C B (.slice a ps.length cap) L ps W := by
 have hl := h.rs.1
 simp only [List.length_append, List.length_singleton] at hl
 have h3 := h.rs.len
 have hL3 : ∀ d ∈ L, d.length = 3 := fun d hd => h3 d (by simp [hd])
 have hLl : L.flatten.length = ps.length * 3 := by rw [flat_len 3 L hL3]; omega
 refine ⟨⟨hLl, ?_⟩, ⟨by omega, fun i c p hc hp => ?_⟩, h.le⟩
 ·rcases h.own.2 with ⟨e, h0⟩ | ⟨g, cap', cur, e, hB, hg, g1, g2, g3, g4⟩
  ·simp at h0
  ·cases e
   refine .inr ⟨g, cap, cur, rfl, hB, hg, by simp at g1; omega, g2, g3, ?_⟩
   have e2 : cur.toList.take (ps.length * 3) = ((cur.toList.take ((ps ++ [q]).length * 3))).take (ps.length * 3) := by
    rw [List.take_take, Nat.min_eq_left (by simp; omega)]
   rw [e2, g4, List.flatten_append, List.take_append_of_le_length (by omega), List.take_of_length_le (by omega)]
 ·have hi := (List.getElem?_eq_some_iff.1 hc).1
  have hi2 := (List.getElem?_eq_some_iff.1 hp).1
  exact h.rs.2 i c p (by rw [List.getElem?_append_left hi]; exact hc) (by rw [List.getElem?_append_left hi2]; exact hp)
theorem PS.rev_form {C B : Nat} {v : Value} {L : List (List Value)} {ps : List Pc} {W : World} (h : PS C B v L ps W) (hp : 0 < ps.length) : ∃ a cap L' ps' c q, v = .slice a (ps'.length + 1) cap ∧ L = L' ++ [c] ∧ ps = ps' ++ [q] ∧ pcFits (fun b => b < C) W c q ∧ c.length = 3 ∧ oneC c ∧ ps'.length + 1 ≤ cap ∧
  ∃ g, a = some ⟨g, 0, none⟩ ∧ Cells W g (0 + ps'.length * 3) c := by
 obtain ⟨a, cap, rfl⟩ := h.form
 have hL : L.length = ps.length := h.rs.1
 obtain ⟨ps', q, rfl⟩ : ∃ ps' q, ps = ps' ++ [q] := ⟨ps.dropLast, ps.getLast (by intro e; simp [e] at hp), (List.dropLast_concat_getLast _).symm⟩
 obtain ⟨L', c, rfl⟩ : ∃ L' c, L = L' ++ [c] := ⟨L.dropLast, L.getLast (by intro e; simp [e] at hL), (List.dropLast_concat_getLast _).symm⟩
 simp only [List.length_append, List.length_singleton] at hL
 have hf : pcR.fits (fun b => b < C) W c q := h.rs.2 ps'.length c q (by rw [List.getElem?_append_right (by omega)]; simp [show ps'.length - L'.length = 0 by omega]) (by simp)
 have h3 : ∀ d ∈ L' ++ [c], d.length = 3 := h.rs.len
 obtain ⟨g, rest, rfl, hB, hb, _⟩ := own_rows h.own hp
 refine ⟨_, cap, L', ps', c, q, by simp, rfl, rfl, hf, h3 c (by simp), pcR.one hf, ?_, g, rfl, ?_⟩
 ·rcases h.own.2 with ⟨e, h0⟩ | ⟨g, cap', cur, e, hB, hg, g1, _⟩
  ·simp at h0
  ·cases e; simpa using g1
 ·exact row_cells hb h3 (by rw [List.getElem?_append_right (by omega)]; simp [show ps'.length - L'.length = 0 by omega])
theorem PS.ge {C B y : Nat} {v : Value} {L : List (List Value)} {ps : List Pc} {W : World} (h : PS C B v L ps W) (hy : v.ownBlock = some y) : B ≤ y ∧ y < W.heap.size := BM h.own hy
structure FI (w : World) (p r : Nat) (v : Value) (t : List UInt8) (f : Fml) (x : Value × List (List Value) × List Pc × Value × List UInt8) (W : World) : Prop where
 wr : Wrote p v x.2.2.2.1 w W
 wb : WrB W p x.2.2.2.1 x.2.2.2.2
 ps : PS p w.heap.size x.1 x.2.1 x.2.2.1 W
 ne : ∀ y, x.1.ownBlock = some y → x.2.2.2.1.ownBlock ≠ some y
 sty : StyM W r
 rn : x.1.ownBlock ≠ some r ∧ x.2.2.2.1.ownBlock ≠ some r ∧ r < W.heap.size
 fit : ∀ q ∈ x.2.2.1, pcFit q
 out : x.2.2.2.2 ++ x.2.2.1.reverse.flatMap outP = t ++ prF 0 f
 ok : x.2.2.1.all pcOk = okF f
 pot : x.2.2.2.2.length + CZ DD x.2.2.1 ≤ t.length + (44 * szF f - 22)
 wt : CZ pcWt x.2.2.1 ≤ 8 * szF f
theorem wt_len : ∀ ps : List Pc, ps.length ≤ CZ pcWt ps
 | [] => by simp
 | .txt t :: ps => by have := wt_len ps; rw [Cs]; simp only [pcWt, List.length_cons]; omega
 | .sub f n :: ps => by have := wt_len ps; have := szF_pos f; rw [Cs]; simp only [pcWt, List.length_cons]; omega
set_option maxHeartbeats 3200000 in
theorem wformula_ok (w : World) (p b o : Nat) (v : Value) (t : List UInt8) (f : Fml) (hw : WrB w p v t) (hf : PF (fun b => b < p) w b o f) (hG : GP w) (hp : 10 ≤ p) (hz : szF f ≤ 1000000) (hl : t.length ≤ 1000000000) :
  FnP Tryz.prog 44 [pt p, .pointer (some ⟨b, o, none⟩)] w (fun _ w' => okF f = true ∧ ∃ v', WrB w' p v' (t ++ prF 0 f) ∧ Wrote p v v' w w') (fun ch w' => ch = unp ∧ okF f = false ∧ ∃ v', Wrote p v v' w w') := by
 have hpw := hw.lt
 refine Ar Tryz.func44 rfl Tryz.ntmps44 (Nat.le_of_ble_eq_true rfl) (by kernel_rfl) ?_
 repeat refine nx rfl ?_
 refine AA ?_
 refine AS (styles_ok w) rfl ?_
 rintro _ w1 ⟨r, rfl, k1, hr, hst⟩
 have hrl : r < w1.heap.size := by obtain ⟨M, hM, _⟩ := id hst; exact hM.lt
 refine AC (M_map rfl ?_)
 repeat refine nx rfl ?_
 refine AA (AQ rfl (Ad (by rfl) (by rfl) ?_))
 refine AV (out := subC b o 0) rfl (by omega) (by kernel_rfl) (fun w2 n2 => ?_)
 have z1 := k1.size
 have z2 := n2.size
 have k2 : Ext w w2 := k1.trans n2.keep
 have o2 := n2.own (n := 1) (size := 3) (B := w.heap.size) rfl (by decide) z1
 refine AC (Ae rfl ?_)
 repeat refine nx rfl ?_
 have h0 : FI w p r v t f (.slice (some ⟨w1.heap.size, 0, none⟩) 1 1, [subC b o 0], [.sub f 0], v, t) w2 := by
  refine ⟨⟨k2.any, fun y hy => .inl hy⟩, hw.ext k2, ⟨by simpa using o2, RsAt.one (R := pcR) (a := Pc.sub f 0) ⟨b, o, rfl, hf.keep k2 (by simp)⟩, by omega⟩, ?_, hst.keep n2.keep (by simp), ⟨?_, ?_, by omega⟩, ?_, by simp [outP], by simp [pcOk], by simp [CZ, DD], by simp [CZ, pcWt]⟩
  ·intro y hy h2
   have hy : w1.heap.size = y := by simpa [Value.ownBlock] using hy
   have := (hw.ge h2).2
   omega
  ·intro e
   have e : w1.heap.size = r := by simpa [Value.ownBlock] using e
   omega
  ·intro e; have := (hw.ge e).2; omega
  ·intro q hq
   simp at hq; subst hq
   exact ⟨by omega, hz⟩
 clear o2 n2
 refine BJ (α := Value × List (List Value) × List Pc × Value × List UInt8) (fun x => [(0, pt p), (4, .map (some r)), (5, x.1)]) (FI w p r v t f) (fun x => CZ pcWt x.2.2.1) (.slice (some ⟨w1.heap.size, 0, none⟩) 1 1, [subC b o 0], [.sub f 0], v, t) ⟨rfl, rfl, rfl, trivial⟩ h0 ?_
 clear h0 z2 k2
 rintro ⟨tv, L, ps, v1, t1⟩ w3 f3 hI
 obtain ⟨hwr, hwb, hps, hne, hst3, ⟨hr1, hr2, hr3⟩, hfit, hout, hok, hpot, hwt⟩ := id hI
 simp only at hwr hwb hps hne hst3 hr1 hr2 hr3 hfit hout hok hpot hwt ⊢
 repeat refine nx rfl ?_
 have hlen := wt_len ps
 by_cases hp0 : ps.length = 0
 ·have e0 : ps = [] := List.length_eq_zero_iff.1 hp0
  subst e0
  obtain ⟨a, cp, rfl⟩ := hps.form
  rw [hp0]
  refine AA (Ae rfl (As rfl (DF rfl rfl (by omega) ?_)))
  repeat first | refine nx rfl ?_ | refine nf rfl ?_
  refine A1 rfl ⟨by simpa using hok.symm, v1, ?_, hwr⟩
  simp at hout
  rw [← hout]
  exact hwb
 obtain ⟨a, cap, L', ps', c, q, rfl, rfl, rfl, hq, hc3, hc1, hcap, g, rfl, hcl⟩ := hps.rev_form (by omega)
 clear hp0
 rw [List.length_append, List.length_singleton] at hlen
 refine AA (Ae rfl (As rfl (DI rfl rfl (by omega) ?_)))
 repeat refine nx rfl ?_
 refine AA (Ae rfl (Ae rfl (As rfl (W_sub rfl rfl (by first | exact Am (by omega) (by omega) | exact At (by omega) (by omega) | exact Al (by omega) (by omega)) ?_))))
 refine CD (k := ps'.length) rfl rfl (by omega) (by omega) ?_
 refine Ac (L := c) rfl hc3 hcl ?_
 refine BE (cs := c) rfl hc3 (by rfl) hc1 (fun w4 n4 => ?_)
 have z4 := n4.size
 have k4 := n4.keep
 repeat refine nx rfl ?_
 refine AA (Ae rfl (Ae rfl (As rfl (W_sub rfl rfl (by first | exact Am (by omega) (by omega) | exact At (by omega) (by omega) | exact Al (by omega) (by omega)) ?_))))
 refine W_slice_h rfl rfl (by omega) (by omega) ?_
 rw [show ((((ps'.length + 1 : Nat) : Int) - 1).toNat) = ps'.length by omega]
 refine AC (Ae rfl ?_)
 repeat refine nx rfl ?_
 have b4 := n4.blk
 have hps4 := hps.cut.ext k4
 have hwb4 := hwb.ext k4
 have hwr4 := hwr.ext k4
 have hst4 := hst3.keep k4 (by simp)
 have hfq : pcFit q := hfit q (by simp)
 have hfit' : ∀ x ∈ ps', pcFit x := fun x hx => hfit x (by simp [hx])
 rw [Cl, Cs, sumP_nil] at hpot hwt
 rw [List.all_append] at hok
 rw [List.reverse_append, List.reverse_singleton, List.singleton_append, List.flatMap_cons] at hout
 cases q with
 | txt s =>
  have hq : c = txtC s := hq
  subst hq
  have h41 : w4.cell? ⟨w3.heap.size, 0 + 1, none⟩ = some (.pointer none) := b4.cell rfl
  have h40 : w4.cell? ⟨w3.heap.size, 0 + 0, none⟩ = some (AL s) := b4.cell rfl
  refine AA (AD rfl (AG rfl (Blk.cell (by assumption) (by rfl)) ?_))
  refine W_ptrNil rfl ?_
  repeat refine nx rfl ?_
  refine AA (AQ rfl (AD rfl (AG rfl (Blk.cell (by assumption) (by rfl)) ?_)))
  refine AV (out := [AL s]) rfl (by omega) (by kernel_rfl) (fun w5 n5 => ?_)
  have z5 := n5.size
  have k5 := n5.keep
  have hwb5 := hwb4.ext k5
  have hS5 : Sl (fun b => b < w5.heap.size ∧ b ≠ p ∧ v1.ownBlock ≠ some b) w5 (.slice (some ⟨w4.heap.size, 0, none⟩) 1 1) [s].length ([s].map AL) := by
   refine ⟨_, _, rfl, by simp, by omega, (fun h => by cases h), .inr ⟨_, _, rfl, ⟨by omega, ?_, ?_⟩, n5.blk.cells⟩⟩
   ·have := hwb4.lt; omega
   ·intro e; have := (hwb4.ge e).2; omega
  simp only [DD] at hpot
  simp only [pcWt] at hwt
  refine AS (put_ok w5 p v1 _ t1 [s] hwb5 hS5 (by simp; omega)) rfl ?_
  rintro _ w6 ⟨v6, hwb6, hwr6⟩
  simp only [List.flatten_cons, List.flatten_nil, List.append_nil] at hwb6
  repeat refine nx rfl ?_
  have z6 := hwr6.keep.size
  have hX : ∀ y, y < w5.heap.size → y ≠ p → v1.ownBlock ≠ some y → y ∉ p :: v1.ownBlock.toList := fun y _ h1 h2 hx => by
   rcases List.mem_cons.1 hx with hx | hx
   ·exact h1 hx
   ·exact h2 (Option.mem_toList.1 hx)
  refine ⟨(_, L', ps', v6, t1 ++ s), ⟨rfl, ⟨rfl, rfl, rfl, trivial⟩, ⟨(hwr4.ext k5).trans hwr6, hwb6, (hps4.ext k5).keep hwr6.keep ?_ ?_, ?_, (hst4.keep k5 (by simp)).keep hwr6.keep ?_, ⟨hr1, ?_, ?_⟩, hfit', ?_, ?_, ?_, ?_⟩⟩, ?_⟩
  ·intro y hy
   have := hps4.ge hy
   exact hX y (by omega) (by omega) (hne y hy)
  ·intro y hy
   exact hX y (by omega) (by omega) (fun e => by have := (hwb4.ge e).1; omega)
  ·intro y hy h2
   rcases hwr6.blk y h2 with e | e
   ·exact hne y hy e
   ·have := (hps4.ge hy).2; omega
  ·exact hX r (by omega) (by omega) hr2
  ·intro e
   rcases hwr6.blk r e with e | e
   ·exact hr2 e
   ·omega
  ·omega
  ·simp only; rw [List.append_assoc]; exact hout
  ·simp only; rw [← hok]; simp [pcOk]
  ·simp only; rw [List.length_append]; omega
  ·simp only; omega
  ·simp only; rw [Cl, Cs, sumP_nil]; simp only [pcWt]; omega
 | sub f' n =>
  obtain ⟨b', o', hq, hpf⟩ := hq
  subst hq
  have h41 : w4.cell? ⟨w3.heap.size, 0 + 1, none⟩ = some (.pointer (some ⟨b', o', none⟩)) := b4.cell rfl
  have h42 : w4.cell? ⟨w3.heap.size, 0 + 2, none⟩ = some (.int .i64 (n : Int)) := b4.cell rfl
  refine AA (AD rfl (AG rfl (Blk.cell (by assumption) (by rfl)) ?_))
  refine W_ptrNil rfl ?_
  repeat first | refine nx rfl ?_ | refine nf rfl ?_
  have hpf4 := hpf.keep k4 (by simp)
  obtain ⟨_, a5, c5, L5, hcl5, _, _⟩ := hpf4.form
  have h50 : w4.cell? ⟨b', o' + 0, none⟩ = some (.int .i64 f'.op) := hcl5 0 _ rfl
  obtain ⟨M, hM, hlook⟩ := id hst4
  (refine AA (M_map rfl (AD rfl (AG rfl (Blk.cell (by assumption) (by rfl)) ?_))) <;> refine AH rfl (AD rfl (AG rfl (by assumption) ?_)))
  refine W_lookup2V rfl rfl hM ?_
  rw [hlook]
  clear hlook hM M
  simp only [DD, pcWt, outP] at hpot hwt hout
  rw [List.all_cons, List.all_nil, Bool.and_true] at hok
  simp only [pcOk] at hok
  cases hs : Bc f'.op with
  | none =>
   have hbad : okF f' = false := by rw [okF_eq]; unfold Cu; rw [hs]; rfl
   have hbad2 : okF f = false := by rw [← hok, hbad, Bool.and_false]
   refine Bp rfl (Ag rfl rfl (Ag rfl rfl ?_))
   refine BE (cs := sty0) rfl rfl (by rfl) (BG rfl) (fun w5 n5 => ?_)
   refine AC (AB rfl ?_)
   repeat refine nx rfl ?_
   refine AA (AB rfl ?_)
   refine Aa (Bz w5 false) rfl ?_ ?_
   ·rintro v w6 ⟨_, hb, _⟩; cases hb
   rintro ch w6 ⟨rfl, _, rfl⟩
   repeat refine nx rfl ?_
   exact AY ⟨rfl, hbad2, v1, hwr4.ext n5.keep⟩
  | some s =>
   refine Bp rfl (Ag rfl rfl (Ag rfl rfl ?_))
   refine BE (cs := CN s) rfl rfl (by rfl) (styC_one s) (fun w5 n5 => ?_)
   refine AC (AB rfl ?_)
   repeat refine nx rfl ?_
   have z5 := n5.size
   have k5 := n5.keep
   refine AA (AB rfl ?_)
   refine Aa (Bz w5 true) rfl ?_ ?_
   rotate_left
   ·rintro ch w6 ⟨_, hb, _⟩; cases hb
   rintro _ w6 ⟨rfl, _, rfl⟩
   repeat refine nx rfl ?_
   have b6 := n5.blk
   have i1 := k5.cell h41 (by simp)
   have i2 := k5.cell h42 (by simp)
   have hGw : GP w6 := hG.keep (hwr4.ext k5).keep (by
    intro x hx
    rcases List.mem_cons.1 hx with rfl | hx
    ·exact hp
    ·have := (hw.ge (Option.mem_toList.1 hx)).1; omega)
   refine AA (AX (L := CN s) rfl b6 rfl ?_)
   (refine AD rfl (AG rfl (by assumption) ?_) <;> refine AD rfl (AG rfl (by assumption) ?_))
   have hC6 : p ≤ w6.heap.size := by have := hwb4.lt; omega
   have hf6 := hpf4.keep k5 (by simp)
   have hal : f'.args.length ≤ 1000000 := by
    have := szL_len f'.args
    have := szF_eq f'
    have := hfq.2
    omega
   refine Aa (pieces_ok w6 p hC6 s b' o' n f' hf6 hs hfq.1 hal hGw) rfl ?_ ?_
   rotate_left
   ·rintro ch w7 ⟨rfl, k7, hb7⟩
    repeat refine nx rfl ?_
    refine AY ⟨rfl, ?_, v1, (hwr4.ext k5).ext k7⟩
    rw [← hok, okF_eq, hb7]; simp
   rintro mv w7 ⟨k7, hno, Lm, Bm, hBm, hpm⟩
   refine AC (Az ?_)
   repeat refine nx rfl ?_
   refine AA (Az ?_)
   refine AS (reverse_ok w7 p Bm mv Lm _ hpm) rfl ?_
   rintro _ w8 ⟨hpr, k8⟩
   repeat refine nx rfl ?_
   refine AA (Ae rfl (Az ?_))
   have z7 := k7.size
   have z8 := k8.size
   have hmge : ∀ y, mv.ownBlock = some y → w6.heap.size ≤ y := fun y hy => by have := (hpm.ge hy).1; omega
   have hk8 : ∀ y, y < w6.heap.size → y ∉ mv.ownBlock.toList := fun y hy hx => by have := hmge y (Option.mem_toList.1 hx); omega
   have k68 : Ext w6 w8 := k7.keep k8 (fun y hy => hmge y (Option.mem_toList.1 hy))
   have hps8 := (hps4.ext k5).ext k68
   have hwb8 := (hwb4.ext k5).ext k68
   have hwr8 := (hwr4.ext k5).ext k68
   have hst8 := (hst4.keep k5 (by simp)).keep k68 (by simp)
   have hlp := wt_len ps'
   have hwp := wt_pcs (f := f') s n
   have hlm := wt_len (pcs s n f').reverse
   rw [sumP_rev] at hlm
   simp only [pcWt] at hwp
   refine Bl (ok := A0) (v := .slice (some ⟨g, 0, none⟩) ps'.length cap) rfl rfl hps8.own (A3 hpr.own fun _ _ => trivial) (by omega) rfl hpr.rs.flat hpr.rs.oneC (by omega) (by omega) (by have := hwr8.keep.size; omega) (fun v9 w9 a9 => ?_)
   have z9 := a9.keep.size
   have hps9 : PS p w.heap.size v9 (L' ++ Lm.reverse) (ps' ++ (pcs s n f').reverse) w9 := hps8.app a9 hpr.rs
   refine AC (Az ?_)
   repeat refine nx rfl ?_
   have hgX : ∀ y, (Value.slice (some ⟨g, 0, none⟩) ps'.length cap).ownBlock = some y → y = g := fun y hy => by simpa [Value.ownBlock] using hy.symm
   have hg1 : w.heap.size ≤ g ∧ g < w4.heap.size := hps4.ge rfl
   have hgk : Keep [g] w8 w9 := a9.keep.mono (fun x hx => by simpa using hgX x (Option.mem_toList.1 hx))
   refine ⟨(v9, L' ++ Lm.reverse, ps' ++ (pcs s n f').reverse, v1, t1), ⟨rfl, ⟨rfl, rfl, rfl, trivial⟩, ⟨⟨hwr8.keep.trans hgk ?_, hwr8.blk⟩, hwb8.keep hgk ?_ ?_, hps9, ?_, hst8.keep hgk ?_, ⟨?_, hr2, ?_⟩, ?_, ?_, ?_, ?_, ?_⟩⟩, ?_⟩
   ·intro x hx hlt
    simp at hx; omega
   ·simp; omega
   ·intro y hy hx
    simp at hx; subst hx
    exact hne y rfl hy
   ·intro y hy h2
    rcases a9.blk with e | e
    ·rw [e] at hy; exact hne y hy h2
    ·rw [e] at hy
     have hy : w8.heap.size = y := by simpa using hy
     have := (hwb8.ge h2).2; omega
   ·simp
    intro e
    exact hr1 (by simp [Value.ownBlock, e])
   ·intro e2
    rcases a9.blk with e | e
    ·rw [e] at e2; exact hr1 e2
    ·rw [e] at e2
     have e2 : w8.heap.size = r := by simpa using e2
     omega
   ·omega
   ·intro x hx
    rcases List.mem_append.1 hx with hx | hx
    ·exact hfit' x hx
    ·exact fit_pcs hs hfq.2 x (List.mem_reverse.1 hx)
   ·simp only
    rw [List.reverse_append, List.reverse_reverse, List.flatMap_append, out_pcs hs]
    exact hout
   ·simp only
    rw [List.all_append, List.all_reverse, ok_pcs, ← hok, okF_eq, hno, Bool.true_and]
   ·simp only
    rw [Cl, sumP_rev]
    have := pot_pcs (s := s) (n := n) hno
    simp only [DD] at this
    omega
   ·simp only
    rw [Cl, sumP_rev]; omega
   ·simp only
    rw [Cl, sumP_rev, Cl, Cs, sumP_nil]
    simp only [pcWt]
    omega
end Go.Proofs.YtfcgdbmoncnibaaGreatDoor
namespace Go.Proofs.YtfcgdbmoncnibaaGreatDoor
open Go.RowKit
set_option linter.unusedVariables false
def PA {α : Type} (R : Rp α) (ok : Nat → Prop) (w : World) (b o : Nat) (a : α) : Prop := ok b ∧ ∃ d : List Value, Cells w b o d ∧ R.fits ok w d a
theorem PA.keep {α : Type} {R : Rp α} {ok : Nat → Prop} {X : List Nat} {w w' : World} {b o : Nat} {a : α} (h : PA R ok w b o a) (k : Keep X w w') (hX : ∀ b, ok b → b ∉ X) : PA R ok w' b o a := by
 obtain ⟨hb, d, hc, hf⟩ := h
 exact ⟨hb, d, hc.keep k (hX b hb), R.keep hf k hX⟩
theorem PA.mono {α : Type} {R : Rp α} {ok ok' : Nat → Prop} {w : World} {b o : Nat} {a : α} (h : PA R ok w b o a) (hk : ∀ b, ok b → ok' b) : PA R ok' w b o a := by
 obtain ⟨hb, d, hc, hf⟩ := h
 exact ⟨hk b hb, d, hc, R.mono hf hk⟩
theorem Wrote.old {p : Nat} {v v' : Value} {w w' : World} {t : List UInt8} (_h : Wrote p v v' w w') (hw : WrB w p v t) : ∀ b, b < p → b ∉ p :: v.ownBlock.toList := fun b hb hx => by
 rcases List.mem_cons.1 hx with e | e
 ·omega
 ·have := (hw.ge (Option.mem_toList.1 e)).1; omega
theorem Wrote.gp {p : Nat} {v v' : Value} {w w' : World} {t : List UInt8} (h : Wrote p v v' w w') (hw : WrB w p v t) (hG : GP w) (hp : 10 ≤ p) : GP w' := hG.keep h.keep (by
 intro x hx
 rcases List.mem_cons.1 hx with rfl | hx
 ·exact hp
 ·have := (hw.ge (Option.mem_toList.1 hx)).1; omega)
theorem PA.wrote {α : Type} {R : Rp α} {w w' : World} {b o p : Nat} {a : α} {v v' : Value} {t : List UInt8} (h : PA R (fun b => b < p) w b o a) (k : Wrote p v v' w w') (hw : WrB w p v t) : PA R (fun b => b < p) w' b o a := h.keep k.keep (k.old hw)
theorem CP {w0 w : World} {p : Nat} {v : Value} {t : List UInt8} {parts : List (List UInt8)} (h : WrB w0 p v t) (n : New w0 w 9 (parts.map AL)) (hn : parts.length ≤ 16) (hl : t.length + parts.flatten.length ≤ 140737488355328) :
  Fn Tryz.prog 75 [pt p, .slice (some ⟨w0.heap.size, 0, none⟩) parts.length parts.length] w fun _ w' => ∃ v', WrB w' p v' (t ++ parts.flatten) ∧ Wrote p v v' w0 w' := by
 have z := n.size
 refine Fn.mono (put_ok w p v _ t parts (h.ext n.keep) ⟨_, _, rfl, Nat.le_refl _, by omega, (fun h => by cases h), .inr ⟨_, _, rfl, ⟨by omega, ?_, ?_⟩, n.blk.cells⟩⟩ hl) ?_
 ·have := h.lt; omega
 ·intro e; have := (h.ge e).2; omega
 ·rintro _ w' ⟨v', h1, h2⟩
  exact ⟨v', h1, Wrote.trans ⟨n.keep.any, fun y hy => .inl hy⟩ h2⟩
def reqT (r : Rqm) : List UInt8 := (if r.kind = 1 then [97, 115, 115, 117, 109, 101, 32] else [103, 117, 97, 114, 97, 110, 116, 101, 101, 32]) ++ (r.name ++ [58, 32]) ++ prF 0 r.formula
def okR (r : Rqm) : Bool := (decide (r.kind = 1) || decide (r.kind = 2)) && BV r.name && okF r.formula
def WAns (p : Nat) (v : Value) (t s : List UInt8) (ok : Bool) (w w' : World) : Prop := ok = true ∧ ∃ v', WrB w' p v' (t ++ s) ∧ Wrote p v v' w w'
def WPan (p : Nat) (v : Value) (ok : Bool) (w : World) (ch : List PanicEntry) (w' : World) : Prop := ch = unp ∧ ok = false ∧ ∃ v', Wrote p v v' w w'
set_option maxHeartbeats 1600000 in
theorem wreq_ok (w : World) (p b o : Nat) (v : Value) (t : List UInt8) (r : Rqm) (hw : WrB w p v t) (hf : PA reqR (fun b => b < p) w b o r) (hG : GP w) (hp : 10 ≤ p) (hz : szF r.formula ≤ 1000000) (hl : t.length ≤ 999999000) :
  FnP Tryz.prog 84 [pt p, .pointer (some ⟨b, o, none⟩)] w (fun _ w' => WAns p v t (reqT r) (okR r) w w') (WPan p v (okR r) w) := by
 obtain ⟨hb, d, hcl, d5, rfl, hd5, hfa⟩ := id hf
 have h2 : w.cell? ⟨b, o + 2, none⟩ = some (.int .i64 r.kind) := hcl 2 _ rfl
 refine Ar Tryz.func84 rfl Tryz.ntmps84 (Nat.le_of_ble_eq_true rfl) (by kernel_rfl) ?_
 repeat refine nx rfl ?_
 (refine AA (AQ rfl (AH rfl (AD rfl (AG rfl (by assumption) ?_)))) <;> refine AJ ?_)
 repeat' first | refine AJ ?_ | refine DH ?_ | refine DP ?_
 refine CE (α := Value) (fun _ => [(0, pt p), (1, .pointer (some ⟨b, o, none⟩))]) (fun v1 W => (r.kind = 1 ∨ r.kind = 2) ∧ WrB W p v1 (t ++ (if r.kind = 1 then [97, 115, 115, 117, 109, 101, 32] else [103, 117, 97, 114, 97, 110, 116, 101, 101, 32])) ∧ Wrote p v v1 w W) ?_ ?_
 ·repeat refine nx rfl ?_
  by_cases h1 : r.kind = 1
  ·refine AA (Av rfl rfl (by omega) (AC (AB rfl ?_)))
   repeat refine nx rfl ?_
   refine AA (AQ rfl ?_)
   refine AV (out := [AL [97, 115, 115, 117, 109, 101, 32]]) rfl (by omega) (by kernel_rfl) (fun w1 n1 => ?_)
   refine AS (CP (parts := [[97, 115, 115, 117, 109, 101, 32]]) hw n1 (by simp) (by simp; omega)) rfl ?_
   rintro _ w2 ⟨v2, hw2, k2⟩
   repeat refine nx rfl ?_
   refine An v2 ⟨rfl, rfl, trivial⟩ ⟨.inl h1, ?_, k2⟩
   rw [if_pos h1]; exact hw2
  ·refine AA (AN rfl rfl (by omega) (AC (AB rfl ?_)))
   repeat first | refine nx rfl ?_ | refine nf rfl ?_
   by_cases h22 : r.kind = 2
   ·refine AA (Av rfl rfl (by omega) (AC (AB rfl ?_)))
    repeat refine nx rfl ?_
    refine AA (AQ rfl ?_)
    refine AV (out := [AL [103, 117, 97, 114, 97, 110, 116, 101, 101, 32]]) rfl (by omega) (by kernel_rfl) (fun w1 n1 => ?_)
    refine AS (CP (parts := [[103, 117, 97, 114, 97, 110, 116, 101, 101, 32]]) hw n1 (by simp) (by simp; omega)) rfl ?_
    rintro _ w2 ⟨v2, hw2, k2⟩
    repeat refine nx rfl ?_
    refine An v2 ⟨rfl, rfl, trivial⟩ ⟨.inr h22, ?_, k2⟩
    rw [if_neg h1]; exact hw2
   ·refine AA (AN rfl rfl (by omega) (AC (AB rfl ?_)))
    repeat first | refine nx rfl ?_ | refine nf rfl ?_
    refine AA ?_
    refine Aa (Bz w false) rfl ?_ ?_
    ·rintro v w6 ⟨_, hb, _⟩; cases hb
    rintro ch w6 ⟨rfl, _, rfl⟩
    repeat refine nx rfl ?_
    refine AY ⟨rfl, ?_, v, Wrote.refl _ _ _⟩
    simp [okR, h1, h22]
 rintro v1 w1 f1 ⟨hk, hw1, k1⟩
 have hkd : (decide (r.kind = 1) || decide (r.kind = 2)) = true := by simpa using hk
 have hf1 := hf.wrote k1 hw
 obtain ⟨_, d', hcl', d6, rfl, hd6, hfa'⟩ := id hf1
 have h11 : w1.cell? ⟨b, o + 1, none⟩ = some (AL r.name) := hcl' 1 _ rfl
 have hG1 := k1.gp hw hG hp
 repeat refine nx rfl ?_
 refine AA (AQ rfl (AQ rfl (AH rfl (AD rfl (AG rfl (by assumption) ?_)))))
 refine Aa (wname_ok w1 r.name hG1.gk) rfl ?_ ?_
 rotate_left
 ·rintro ch w2 ⟨rfl, hb, rfl⟩
  repeat refine nx rfl ?_
  exact AY ⟨rfl, by simp [okR, hb], v1, k1⟩
 rintro _ w2 ⟨rfl, hnm, rfl⟩
 have hnl := (Bf hnm).2.1
 refine AV (out := [AL r.name, AL [58, 32]]) rfl (by omega) (by kernel_rfl) (fun w3 n3 => ?_)
 refine AS (CP (parts := [r.name, [58, 32]]) hw1 n3 (by simp) (by split <;> simp <;> omega)) rfl ?_
 rintro _ w4 ⟨v4, hw4, k4⟩
 repeat refine nx rfl ?_
 have k14 := k1.trans k4
 have hf4 := hf1.wrote k4 hw1
 obtain ⟨_, d', hcl4, d7, rfl, hd7, hfa4⟩ := id hf4
 have hpf : PF (fun b => b < p) w4 b (o + 3) r.formula := ⟨hb, d7, hd7, fun i u hu => by
  have := hcl4 (3 + i) u (by rw [List.getElem?_append_right (by simp)]; simpa using hu)
  rw [← Nat.add_assoc] at this
  exact this, hfa4⟩
 refine AA (AQ rfl (AQ rfl (AH rfl (AD rfl ?_))))
 refine Aa (wformula_ok w4 p b (o + 3) v4 _ r.formula hw4 hpf (k4.gp hw1 hG1 hp) hp hz (by split <;> simp <;> omega)) rfl ?_ ?_
 rotate_left
 ·rintro ch w5 ⟨rfl, hb5, v5, k5⟩
  repeat refine nx rfl ?_
  exact AY ⟨rfl, by simp [okR, hb5], v5, k14.trans k5⟩
 rintro _ w5 ⟨hok5, v5, hw5, k5⟩
 repeat refine nx rfl ?_
 refine A1 rfl ⟨by simp only [okR, hkd, hnm, hok5, Bool.and_self], v5, ?_, k14.trans k5⟩
 have e : t ++ reqT r = t ++ (if r.kind = 1 then [97, 115, 115, 117, 109, 101, 32] else [103, 117, 97, 114, 97, 110, 116, 101, 101, 32]) ++ [r.name, [58, 32]].flatten ++ prF 0 r.formula := by simp [reqT]
 rw [e]
 exact hw5
end Go.Proofs.YtfcgdbmoncnibaaGreatDoor
namespace Go.Proofs.YtfcgdbmoncnibaaGreatDoor
open Go.RowKit
set_option linter.unusedVariables false
def sgnT (x : Sgn) : List UInt8 := (if x.input then [105, 110, 112, 117, 116, 32] else [111, 117, 116, 112, 117, 116, 32]) ++ x.name ++ (if x.size = 2 then [] else [58, 32] ++ CI x.size) ++ [59, 10]
def okS (x : Sgn) : Bool := BV x.name && numB x.size
set_option maxHeartbeats 1600000 in
theorem wsig_ok (w : World) (p : Nat) (v : Value) (t : List UInt8) (x : Sgn) (hw : WrB w p v t) (hG : GP w) (hp : 10 ≤ p) (hl : t.length ≤ 999999000) :
  FnP Tryz.prog 82 [pt p, .agg (Cb x).toArray] w (fun _ w' => WAns p v t (sgnT x) (okS x) w w') (WPan p v (okS x) w) := by
 refine Ar Tryz.func82 rfl Tryz.ntmps82 (Nat.le_of_ble_eq_true rfl) (by kernel_rfl) ?_
 repeat refine nx rfl ?_
 (refine AA ?_; refine Bq (L := Cb x) rfl (fun w1 n1 => ?_))
 have k1 := n1.keep
 have b1 := n1.blk
 have hw1 := hw.ext k1
 have hwr1 : Wrote p v v w w1 := ⟨k1.any, fun y hy => .inl hy⟩
 have hG1 := hG.ext k1
 repeat refine nx rfl ?_
 refine AA (AC (AU rfl ?_))
 repeat refine nx rfl ?_
 have h1 : w1.cell? ⟨w.heap.size, 0 + 1, none⟩ = some (.bool x.input) := b1.cell rfl
 have h0 : w1.cell? ⟨w.heap.size, 0 + 0, none⟩ = some (AL x.name) := b1.cell rfl
 (refine AA (AD rfl (AG rfl (Blk.cell (by assumption) (by rfl)) ?_)) <;> refine AJ ?_)
 repeat' first | refine AJ ?_ | refine DH ?_ | refine DP ?_
 refine CE (α := Unit) (fun _ => [(0, pt p), (3, pt w.heap.size), (4, AL (if x.input then [105, 110, 112, 117, 116, 32] else [111, 117, 116, 112, 117, 116, 32]))]) (fun _ W => w1 = W) ?_ ?_
 ·cases hi : x.input with
  | true =>
   repeat refine nx rfl ?_
   refine AA (AC (AU rfl ?_))
   repeat refine nx rfl ?_
   exact An () ⟨rfl, rfl, rfl, trivial⟩ rfl
  | false =>
   repeat first | refine nx rfl ?_ | refine nf rfl ?_
   exact An () ⟨rfl, rfl, rfl, trivial⟩ rfl
 rintro _ _ f1 rfl
 generalize hkd : (if x.input then [105, 110, 112, 117, 116, 32] else [111, 117, 116, 112, 117, 116, 32] : List UInt8) = kd
 have hkl : kd.length ≤ 7 := by rw [← hkd]; split <;> simp
 repeat refine nx rfl ?_
 refine AA (AQ rfl (AU rfl (AD rfl (AG rfl (Blk.cell (by assumption) (by rfl)) ?_))))
 refine Aa (wname_ok w1 x.name hG1.gk) rfl ?_ ?_
 rotate_left
 ·rintro ch w2 ⟨rfl, hb, rfl⟩
  repeat refine nx rfl ?_
  exact AY ⟨rfl, by simp [okS, hb], v, hwr1⟩
 rintro _ w2 ⟨rfl, hnm, rfl⟩
 have hnl := (Bf hnm).2.1
 refine AV (out := [AL kd, AL x.name]) rfl (by omega) (by kernel_rfl) (fun w3 n3 => ?_)
 refine AS (CP (parts := [kd, x.name]) hw1 n3 (by simp) (by simp; omega)) rfl ?_
 rintro _ w4 ⟨v4, hw4, k4⟩
 repeat refine nx rfl ?_
 have k14 := hwr1.trans k4
 have hG4 := k4.gp hw1 hG1 hp
 have hpl := hw1.lt
 have hx4 : w.heap.size ∉ p :: v.ownBlock.toList := fun hx => by
  rcases List.mem_cons.1 hx with e | e
  ·have := hw.lt; omega
  ·have := (hw.ge (Option.mem_toList.1 e)).2; omega
 have b4 := b1.keep k4.keep hx4
 have h2 : w4.cell? ⟨w.heap.size, 0 + 2, none⟩ = some (.int .i64 x.size) := b4.cell rfl
 refine AA (AD rfl (AG rfl (Blk.cell (by assumption) (by rfl)) ?_))
 refine Aa (wnumber_ok w4 x.size hG4) rfl ?_ ?_
 rotate_left
 ·rintro ch w5 ⟨rfl, hb, rfl⟩
  repeat refine nx rfl ?_
  exact AY ⟨rfl, by simp [okS, hb], v4, k14⟩
 rintro _ w5 ⟨rfl, hnb, k5⟩
 have hnb2 := hnb
 simp only [numB, Bool.and_eq_true, decide_eq_true_eq] at hnb2
 have hnn := numT_len (n := x.size) (by omega)
 have h25 := k5.cell h2 (by simp)
 have hw5 := hw4.ext k5
 have k15 := k14.ext k5
 refine AC (AU rfl ?_)
 repeat refine nx rfl ?_
 have hmid : ∀ (fr : Fr) (Q' : Ce) (ds : DS) (v6 : Value) (w6 : World), True := fun _ _ _ _ _ => trivial
 clear hmid
 by_cases hs2 : x.size = 2
 ·(refine AA (AD rfl (AG rfl (by assumption) ?_)) <;> refine W_neqF rfl rfl (by omega) ?_)
  repeat first | refine nx rfl ?_ | refine nf rfl ?_
  refine AA (AQ rfl ?_)
  refine AV (out := [AL [59, 10]]) rfl (by omega) (by kernel_rfl) (fun w6 n6 => ?_)
  refine AS (CP (parts := [[59, 10]]) hw5 n6 (by simp) (by simp; omega)) rfl ?_
  rintro _ w7 ⟨v7, hw7, k7⟩
  repeat refine nx rfl ?_
  refine A1 rfl ⟨by simp only [okS, hnm, hnb, Bool.and_self], v7, ?_, k15.trans k7⟩
  have e : t ++ sgnT x = t ++ [kd, x.name].flatten ++ [[59, 10]].flatten := by simp [sgnT, hkd, hs2]
  rw [e]
  exact hw7
 ·(refine AA (AD rfl (AG rfl (by assumption) ?_)) <;> refine W_neqT rfl rfl (by omega) ?_)
  repeat refine nx rfl ?_
  refine AA (AQ rfl (AU rfl ?_))
  refine AV (out := [AL [58, 32], AL (CI x.size)]) rfl (by omega) (by kernel_rfl) (fun w6 n6 => ?_)
  refine AS (CP (parts := [[58, 32], CI x.size]) hw5 n6 (by simp) (by simp; omega)) rfl ?_
  rintro _ w7 ⟨v7, hw7, k7⟩
  repeat refine nx rfl ?_
  refine AA (AQ rfl ?_)
  refine AV (out := [AL [59, 10]]) rfl (by omega) (by kernel_rfl) (fun w8 n8 => ?_)
  refine AS (CP (parts := [[59, 10]]) hw7 n8 (by simp) (by simp; omega)) rfl ?_
  rintro _ w9 ⟨v9, hw9, k9⟩
  repeat refine nx rfl ?_
  refine A1 rfl ⟨by simp only [okS, hnm, hnb, Bool.and_self], v9, ?_, (k15.trans k7).trans k9⟩
  have e : t ++ sgnT x = t ++ [kd, x.name].flatten ++ [[58, 32], CI x.size].flatten ++ [[59, 10]].flatten := by simp [sgnT, hkd, hs2]
  rw [e]
  exact hw9
def rqI (l : List Rqm) (i : Nat) : List UInt8 := match l[i]? with
 | none => []
 | some r => (if i = 0 ∨ (l[i - 1]?).map (·.part) ≠ some r.part then [112, 97, 114, 116, 32] ++ (r.part ++ [32, 123, 10]) else []) ++ ([32, 32] ++ (reqT r ++ ([59, 10] ++ (if i + 1 = l.length ∨ (l[i + 1]?).map (·.part) ≠ some r.part then [125, 10] else []))))
def okRq (r : Rqm) : Bool := BV r.part && okR r
def rqsT (l : List Rqm) : List UInt8 := (List.range l.length).flatMap (rqI l)
def spcT (s : Spc) : List UInt8 := s.sigs.flatMap sgnT ++ rqsT s.reqs
def CL (s : Spc) : Bool := s.sigs.all okS && s.reqs.all okRq
def szR (l : List Rqm) : Nat := (l.map fun r => szF r.formula + 4).sum
def szS (s : Spc) : Nat := s.sigs.length + szR s.reqs
theorem sgnT_len {x : Sgn} (h : okS x = true) : (sgnT x).length ≤ 44 := by
 simp only [okS, numB, Bool.and_eq_true, decide_eq_true_eq] at h
 have h1 := (Bf h.1).2.1
 have h2 := numT_len (n := x.size) (by omega)
 unfold sgnT
 simp only [List.length_append]
 have h3 : (if x.input then [105, 110, 112, 117, 116, 32] else [111, 117, 116, 112, 117, 116, 32] : List UInt8).length ≤ 7 := by split <;> simp
 have h4 : (if x.size = 2 then [] else [58, 32] ++ CI x.size : List UInt8).length ≤ 6 := by split <;> simp; omega
 have h5 : ([59, 10] : List UInt8).length = 2 := rfl
 omega
theorem reqT_len {r : Rqm} (h : okR r = true) : (reqT r).length ≤ 44 * szF r.formula + 20 := by
 simp only [okR, Bool.and_eq_true] at h
 have h1 := (Bf h.1.2).2.1
 have h2 := prF_len _ r.formula (Nat.le_refl _) h.2 0
 have h0 := szF_pos r.formula
 unfold reqT
 simp only [List.length_append]
 have h3 : (if r.kind = 1 then [97, 115, 115, 117, 109, 101, 32] else [103, 117, 97, 114, 97, 110, 116, 101, 101, 32] : List UInt8).length ≤ 10 := by split <;> simp
 have h5 : ([58, 32] : List UInt8).length = 2 := rfl
 omega
theorem rqI_len {l : List Rqm} {i : Nat} {r : Rqm} (hr : l[i]? = some r) (h : okRq r = true) : (rqI l i).length ≤ 44 * (szF r.formula + 4) := by
 simp only [okRq, Bool.and_eq_true] at h
 have h1 := (Bf h.1).2.1
 have h2 := reqT_len h.2
 unfold rqI
 rw [hr]
 simp only [List.length_append]
 have h3 : (if i = 0 ∨ (l[i - 1]?).map (·.part) ≠ some r.part then [112, 97, 114, 116, 32] ++ (r.part ++ [32, 123, 10]) else [] : List UInt8).length ≤ 20 := by split <;> simp; omega
 have h4 : (if i + 1 = l.length ∨ (l[i + 1]?).map (·.part) ≠ some r.part then [125, 10] else [] : List UInt8).length ≤ 2 := by split <;> simp
 have h5 : ([32, 32] : List UInt8).length = 2 := rfl
 have h6 : ([59, 10] : List UInt8).length = 2 := rfl
 omega
theorem szR_take {l : List Rqm} {i : Nat} {r : Rqm} (hr : l[i]? = some r) : szR (l.take (i + 1)) = szR (l.take i) + (szF r.formula + 4) := by
 rw [List.take_add_one, hr]; simp [szR]
theorem szR_le (l : List Rqm) (i : Nat) : szR (l.take i) ≤ szR l := by
 have : szR l = szR (l.take i) + szR (l.drop i) := by
  unfold szR
  rw [← List.sum_append, ← List.map_append, List.take_append_drop]
 omega
theorem szR_len : ∀ l : List Rqm, l.length ≤ szR l
 | [] => by simp
 | r :: l => by have := szR_len l; simp only [szR, List.map_cons, List.sum_cons, List.length_cons] at this ⊢; omega
theorem rqs_len (l : List Rqm) : ∀ k, k ≤ l.length → (l.take k).all okRq = true → ((List.range k).flatMap (rqI l)).length ≤ 44 * szR (l.take k)
 | 0, _, _ => by simp
 | k + 1, hk, h => by
  obtain ⟨r, hr⟩ : ∃ r, l[k]? = some r := ⟨_, List.getElem?_eq_getElem (by omega)⟩
  have e : l.take (k + 1) = l.take k ++ [r] := by rw [List.take_add_one, hr]; rfl
  rw [e, List.all_append, Bool.and_eq_true] at h
  have ih := rqs_len l k (by omega) h.1
  have h2 := rqI_len hr (by simpa using h.2)
  rw [szR_take hr, List.range_succ, List.flatMap_append, List.length_append]
  simp only [List.flatMap_cons, List.flatMap_nil, List.append_nil]
  omega
end Go.Proofs.YtfcgdbmoncnibaaGreatDoor
namespace Go.Proofs.YtfcgdbmoncnibaaGreatDoor
open Go.RowKit
set_option linter.unusedVariables false
theorem sigs_len : ∀ l : List Sgn, l.all okS = true → (l.flatMap sgnT).length ≤ 44 * l.length
 | [], _ => by simp
 | x :: l, h => by
  rw [List.all_cons, Bool.and_eq_true] at h
  have h1 := sgnT_len h.1
  have h2 := sigs_len l h.2
  rw [List.flatMap_cons, List.length_append, List.length_cons]; omega
structure SpV (w : World) (p b o : Nat) (s : Spc) (sa ra : Option Addr) (sc rc : Nat) (LS LR : List (List Value)) : Prop where
 lt : b < p
 c0 : w.cell? ⟨b, o + 0, none⟩ = some (.slice sa s.sigs.length sc)
 c1 : w.cell? ⟨b, o + 1, none⟩ = some (.slice ra s.reqs.length rc)
 ss : Sl (fun b => b < p) w (.slice sa s.sigs.length sc) s.sigs.length LS.flatten
 sr : RsAt sgnR (fun b => b < p) w LS s.sigs
 rs : Sl (fun b => b < p) w (.slice ra s.reqs.length rc) s.reqs.length LR.flatten
 rr : RsAt reqR (fun b => b < p) w LR s.reqs
theorem SpV.keep {X : List Nat} {w w' : World} {p b o : Nat} {s : Spc} {sa ra : Option Addr} {sc rc : Nat} {LS LR : List (List Value)} (h : SpV w p b o s sa ra sc rc LS LR) (k : Keep X w w') (hX : ∀ b, b < p → b ∉ X) : SpV w' p b o s sa ra sc rc LS LR :=
 ⟨h.lt, k.cell h.c0 (hX b h.lt), k.cell h.c1 (hX b h.lt), h.ss.keep k hX, h.sr.keep k hX, h.rs.keep k hX, h.rr.keep k hX⟩
theorem SpV.ext {w w' : World} {p b o : Nat} {s : Spc} {sa ra : Option Addr} {sc rc : Nat} {LS LR : List (List Value)} (h : SpV w p b o s sa ra sc rc LS LR) (k : Ext w w') : SpV w' p b o s sa ra sc rc LS LR := h.keep k fun _ _ => by simp
theorem SpV.wrote {w w' : World} {p b o : Nat} {s : Spc} {sa ra : Option Addr} {sc rc : Nat} {LS LR : List (List Value)} {v v' : Value} {t : List UInt8} (h : SpV w p b o s sa ra sc rc LS LR) (k : Wrote p v v' w w') (hw : WrB w p v t) : SpV w' p b o s sa ra sc rc LS LR := h.keep k.keep (k.old hw)
theorem Sl.row {α : Type} {R : Rp α} {ok : Nat → Prop} {w : World} {a : Option Addr} {n c k : Nat} {l : List α} {L : List (List Value)} {d : List Value} (hS : Sl ok w (.slice a n c) n L.flatten) (hR : RsAt R ok w L l) (hd : L[k]? = some d) (hk : k < n) : ∃ b o, a = some ⟨b, o, none⟩ ∧ ok b ∧ Cells w b (o + k * R.size) d := by
 obtain ⟨a', c', e, _, _, _, h⟩ := hS
 cases e
 rcases h with h0 | ⟨b, o, rfl, hb, hc⟩
 ·omega
 ·refine ⟨b, o, rfl, hb, fun j u hu => ?_⟩
  have := hc (k * R.size + j) u (Dc R.size L k j d u hR.len hd hu)
  rw [← Nat.add_assoc] at this
  exact this
set_option maxHeartbeats 1600000 in
theorem wspec_ok (w : World) (p b o : Nat) (v : Value) (t : List UInt8) (s : Spc) (hw : WrB w p v t) (hf : PA spcR (fun b => b < p) w b o s) (hG : GP w) (hp : 10 ≤ p) (hz : szS s ≤ 1000000) (hl : t.length ≤ 100000000) :
  FnP Tryz.prog 47 [pt p, .pointer (some ⟨b, o, none⟩)] w (fun _ w' => WAns p v t (spcT s) (CL s) w w') (WPan p v (CL s) w) := by
 obtain ⟨sa, sc, ra, rc, LS, LR, hV⟩ : ∃ sa sc ra rc LS LR, SpV w p b o s sa ra sc rc LS LR := by
  obtain ⟨hb, d, hcl, sv, rv, rfl, ⟨sa, sc, LS, rfl, h1, h2⟩, ⟨ra, rc, LR, rfl, h3, h4⟩⟩ := id hf
  exact ⟨sa, sc, ra, rc, LS, LR, hb, hcl 0 _ rfl, hcl 1 _ rfl, h1, h2, h3, h4⟩
 clear hf
 have hsl : s.sigs.length ≤ 1000000 := by unfold szS at hz; omega
 have hrz : szR s.reqs ≤ 1000000 := by unfold szS at hz; omega
 have hrl := szR_len s.reqs
 refine Ar Tryz.func47 rfl Tryz.ntmps47 (Nat.le_of_ble_eq_true rfl) (by kernel_rfl) ?_
 repeat refine nx rfl ?_
 have c0 := hV.c0
 (refine AA (AQ rfl (AH rfl (AD rfl (AG rfl (by assumption) ?_)))) <;> refine As rfl (AF rfl (AJ ?_)))
 repeat' first | refine AJ ?_ | refine DH ?_ | refine DP ?_
 refine CE (α := Value) (fun _ => [(0, pt p), (1, .pointer (some ⟨b, o, none⟩))]) (fun v1 W => s.sigs.all okS = true ∧ WrB W p v1 (t ++ s.sigs.flatMap sgnT) ∧ Wrote p v v1 w W) ?_ ?_
 ·repeat refine nx rfl ?_
  refine BJ (α := Nat × Value) (fun x => [(0, pt p), (1, .pointer (some ⟨b, o, none⟩)), (11, .slice sa s.sigs.length sc), (12, .int .i64 (s.sigs.length : Int)), (13, .int .i64 (x.1 : Int))])
   (fun x W => x.1 ≤ s.sigs.length ∧ (s.sigs.take x.1).all okS = true ∧ WrB W p x.2 (t ++ (s.sigs.take x.1).flatMap sgnT) ∧ Wrote p v x.2 w W) (fun x => s.sigs.length - x.1) (0, v) ⟨rfl, rfl, rfl, rfl, rfl, trivial⟩ ⟨by simp, by simp, by simpa using hw, Wrote.refl _ _ _⟩ ?_
  rintro ⟨k, v1⟩ w1 f1 ⟨hk, hok, hw1, k1⟩
  simp only at hk hok hw1 k1 ⊢
  repeat refine nx rfl ?_
  by_cases hlt : k < s.sigs.length
  ·refine AA (BC rfl rfl (by omega) ?_)
   repeat refine nx rfl ?_
   obtain ⟨x, hx⟩ : ∃ x, s.sigs[k]? = some x := ⟨_, List.getElem?_eq_getElem hlt⟩
   have hV1 := hV.wrote k1 hw
   obtain ⟨d, hd⟩ : ∃ d, LS[k]? = some d := ⟨_, List.getElem?_eq_getElem (by rw [hV.sr.1]; exact hlt)⟩
   obtain ⟨bs, os, rfl, hbs, hcs⟩ := hV1.ss.row hV1.sr hd hlt
   have hdx : d = Cb x := hV1.sr.2 k d x hd hx
   subst hdx
   refine AA ?_
   refine CD (k := k) rfl rfl rfl (by omega) ?_
   refine Ac (L := Cb x) rfl rfl hcs ?_
   refine BE (cs := Cb x) rfl rfl (by rfl) (sgnR.one (ok := A0) (w := w) (a := x) rfl) (fun w2 n2 => ?_)
   repeat refine nx rfl ?_
   refine AA (AQ rfl (AX (L := Cb x) rfl n2.blk rfl ?_))
   have hw2 := hw1.ext n2.keep
   have k2 := k1.ext n2.keep
   have hsl1 := sigs_len _ hok
   have htk : (s.sigs.take k).length ≤ 1000000 := by simp; omega
   refine Aa (wsig_ok w2 p v1 _ x hw2 (k2.gp hw hG hp) hp (by rw [List.length_append]; omega)) rfl ?_ ?_
   rotate_left
   ·rintro ch w3 ⟨rfl, hb3, v3, k3⟩
    repeat refine nx rfl ?_
    refine AY ⟨rfl, ?_, v3, k2.trans k3⟩
    have : s.sigs.all okS = false := by
     rw [← Bool.not_eq_true, List.all_eq_true]
     intro h
     have := h x (List.mem_of_getElem? hx)
     rw [hb3] at this; cases this
    simp [CL, this]
   rintro _ w3 ⟨hok3, v3, hw3, k3⟩
   repeat refine nx rfl ?_
   (refine AA (BK rfl rfl (by first | exact Am (by omega) (by omega) | exact At (by omega) (by omega) | exact Al (by omega) (by omega)) ?_) <;> refine AF rfl ?_)
   repeat refine nx rfl ?_
   have e : s.sigs.take (k + 1) = s.sigs.take k ++ [x] := by rw [List.take_add_one, hx]; rfl
   refine ⟨(k + 1, v3), ⟨rfl, ⟨rfl, rfl, rfl, rfl, ?_, trivial⟩, ⟨hlt, ?_, ?_, k2.trans k3⟩⟩, by simp only; omega⟩
   ·show Value.int .i64 ((k : Int) + 1) = _
    rw [Int.natCast_add]; rfl
   ·simp only; rw [e, List.all_append, hok]; simp [hok3]
   ·simp only; rw [e, List.flatMap_append]; simpa using hw3
  ·refine AA (BA rfl rfl (by omega) ?_)
   repeat first | refine nx rfl ?_ | refine nf rfl ?_
   have e : k = s.sigs.length := by omega
   subst e
   rw [List.take_length] at hok hw1
   exact An v1 ⟨rfl, rfl, trivial⟩ ⟨hok, hw1, k1⟩
 rintro v1 w1 f1 ⟨hoks, hw1, k1⟩
 have hV1 := hV.wrote k1 hw
 have c1 := hV1.c1
 have hG1 := k1.gp hw hG hp
 have hsl1 := sigs_len _ hoks
 generalize htt : t ++ s.sigs.flatMap sgnT = tt at hw1
 have httl : tt.length ≤ 100000000 + 44000000 := by rw [← htt, List.length_append]; omega
 repeat refine nx rfl ?_
 (refine AA (AQ rfl (AH rfl (AD rfl (AG rfl (by assumption) ?_)))) <;> refine As rfl (AF rfl ?_))
 repeat refine nx rfl ?_
 refine BJ (α := Nat × Value) (fun x => [(0, pt p), (1, .pointer (some ⟨b, o, none⟩)), (24, .slice ra s.reqs.length rc), (25, .int .i64 (s.reqs.length : Int)), (26, .int .i64 (x.1 : Int))])
  (fun x W => x.1 ≤ s.reqs.length ∧ (s.reqs.take x.1).all okRq = true ∧ WrB W p x.2 (tt ++ (List.range x.1).flatMap (rqI s.reqs)) ∧ Wrote p v x.2 w W) (fun x => s.reqs.length - x.1) (0, v1) ⟨rfl, rfl, rfl, rfl, rfl, trivial⟩ ⟨by simp, by simp, by simpa using hw1, k1⟩ ?_
 clear c0 c1
 rintro ⟨k, v2⟩ w2 f2 ⟨hk, hok, hw2, k2⟩
 simp only at hk hok hw2 k2 ⊢
 repeat refine nx rfl ?_
 by_cases hlt : k < s.reqs.length
 ·obtain ⟨r, hr⟩ : ∃ r, s.reqs[k]? = some r := ⟨_, List.getElem?_eq_getElem hlt⟩
  have hlen2 := rqs_len s.reqs k hk hok
  have hle2 := szR_le s.reqs k
  have hle3 := szR_le s.reqs (k + 1)
  rw [szR_take hr] at hle3
  generalize hut : tt ++ (List.range k).flatMap (rqI s.reqs) = ut at hw2
  have hutl : ut.length ≤ 144000000 + 44 * szR s.reqs := by rw [← hut, List.length_append]; omega
  have hbad : okRq r = false → CL s = false := fun h => by
   have : s.reqs.all okRq = false := by
    rw [← Bool.not_eq_true, List.all_eq_true]
    intro h2
    have := h2 r (List.mem_of_getElem? hr)
    rw [h] at this; cases this
   simp [CL, this]
  have hV2 := hV.wrote k2 hw
  obtain ⟨d, hd⟩ : ∃ d, LR[k]? = some d := ⟨_, List.getElem?_eq_getElem (by rw [hV.rr.1]; exact hlt)⟩
  obtain ⟨br, or, era, hbr, hcr⟩ := hV2.rs.row hV2.rr hd hlt
  subst era
  have hprt : ∀ (W : World), SpV W p b o s sa (some ⟨br, or, none⟩) sc rc LS LR → ∀ j r', s.reqs[j]? = some r' → W.cell? ⟨br, or + j * 8 + 0, none⟩ = some (AL r'.part) := by
   intro W hVW j r' hr'
   have hj := (List.getElem?_eq_some_iff.1 hr').1
   obtain ⟨d', hd'⟩ : ∃ d, LR[j]? = some d := ⟨_, List.getElem?_eq_getElem (by rw [hV.rr.1]; exact hj)⟩
   obtain ⟨_, _, e, _, hcr'⟩ := hVW.rs.row hVW.rr hd' hj
   cases e
   obtain ⟨d5, e5, _⟩ := hVW.rr.2 j d' r' hd' hr'
   exact hcr' 0 _ (by rw [e5]; rfl)
  have c1 := hV2.c1
  refine AA (BC rfl rfl (by omega) ?_)
  repeat refine nx rfl ?_
  refine AA (AF rfl (AC (AF rfl ?_)))
  repeat refine nx rfl ?_
  (refine AA (AQ rfl (AH rfl (AD rfl (AG rfl (by assumption) ?_)))) <;> refine AF rfl (CD rfl rfl rfl (by omega) (AC (AQ rfl (AJ ?_)))))
  repeat' first | refine AJ ?_ | refine DH ?_ | refine DP ?_
  generalize hcc : decide (k = 0 ∨ (s.reqs[k - 1]?).map (·.part) ≠ some r.part) = cc
  refine CE (α := Unit) (fun _ => [(0, pt p), (1, .pointer (some ⟨b, o, none⟩)), (6, .int .i64 (k : Int)), (7, .pointer (some ⟨br, or + k * 8, none⟩)), (24, .slice (some ⟨br, or, none⟩) s.reqs.length rc), (25, .int .i64 (s.reqs.length : Int)), (26, .int .i64 (k : Int)), (52, .bool cc)]) (fun _ W => Ext w2 W) ?_ ?_
  ·refine Bb (.read 0 (.read 1 (.read 2 (.read 3 (.read 4 (.read 5 (.read 6 (.read 7 (.read 8 (.read 9 (.read 10 (.read 11 (.read 12 (.read 13 (.read 14 (.read 15 (.read 16 (.read 17 .done)))))))))))))))))) BP (by kernel_rfl) (fun wd kd ed => ⟨Ext wd, ?_, ?_⟩)
   ·exact Ext.refl _
   have fsv : ∀ W, Ext wd W → W.cell? ⟨b, o + 1, none⟩ = some (.slice (some ⟨br, or, none⟩) s.reqs.length rc) := fun W e => ((hV2.ext kd).ext e).c1
   have fr0 : ∀ W, Ext wd W → W.cell? ⟨br, or + k * 8 + 0, none⟩ = some (AL r.part) := fun W e => hprt W ((hV2.ext kd).ext e) k r hr
   by_cases hk0 : k = 0
   ·subst hk0
    have ecc : cc = true := by rw [← hcc]; simp
    subst ecc
    refine D_R rfl rfl (fun W hW => AF rfl Z3) (D_eqlT rfl rfl rfl rfl (by omega) (D_R rfl rfl (fun W hW => AB rfl Z3) (Af rfl rfl rfl rfl (Af rfl rfl rfl rfl (Af rfl rfl rfl rfl (Af rfl rfl rfl rfl (Af rfl rfl rfl rfl (Af rfl rfl rfl rfl (Af rfl rfl rfl rfl (Af rfl rfl rfl rfl (Af rfl rfl rfl rfl (Af rfl rfl rfl rfl (Af rfl rfl rfl rfl (Af rfl rfl rfl rfl (Af rfl rfl rfl rfl (Af rfl rfl rfl rfl (D_R rfl rfl (fun W hW => AK rfl (AB rfl Z3)) (A8 ?_))))))))))))))))))
    repeat refine nx rfl ?_
    exact An () ⟨rfl, rfl, rfl, rfl, rfl, rfl, rfl, rfl, trivial⟩ kd
   ·obtain ⟨r', hr'⟩ : ∃ r', s.reqs[k - 1]? = some r' := ⟨_, List.getElem?_eq_getElem (by omega)⟩
    have fp0 : ∀ W, Ext wd W → W.cell? ⟨br, or + ((k : Int) - 1).toNat * 8 + 0, none⟩ = some (AL r'.part) := fun W e => by
     rw [show ((k : Int) - 1).toNat = k - 1 by omega]
     exact hprt W ((hV2.ext kd).ext e) (k - 1) r' hr'
    (refine D_R rfl rfl (fun W hW => AF rfl Z3) (D_eqlF rfl rfl rfl rfl (by omega) (D_R rfl rfl (fun W hW => AB rfl Z3) (D_R rfl rfl (fun W hW => AE rfl (AQ rfl Z3)) (D_R rfl rfl (fun W hW => AE rfl (AH rfl Z3)) (D_R rfl rfl (fun W hW => AE rfl (AD rfl Z3)) (D_R rfl rfl (fun W hW => AE rfl (AG rfl (fsv W hW) Z3)) (D_R rfl rfl (fun W hW => AE rfl (AF rfl Z3)) ?_))))))) <;> (apply D_R rfl rfl; (intro W hW; (refine AE rfl ?_; refine W_sub rfl rfl (by first | exact Am (by omega) (by omega) | exact At (by omega) (by omega) | exact Al (by omega) (by omega)) ?_); exact Z3)) <;> refine D_R rfl rfl (fun W hW => AE rfl (BO rfl rfl (by omega) (by omega) Z3)) (D_R rfl rfl (fun W hW => AE rfl (AD rfl Z3)) (D_R rfl rfl (fun W hW => AE rfl (AG rfl (fp0 W hW) Z3)) (D_R rfl rfl (fun W hW => AE rfl (AQ rfl Z3)) (D_R rfl rfl (fun W hW => AE rfl (AH rfl Z3)) (D_R rfl rfl (fun W hW => AE rfl (AD rfl Z3)) (D_R rfl rfl (fun W hW => AE rfl (AG rfl (fr0 W hW) Z3)) ?_)))))) <;> (refine D_sneq rfl rfl rfl rfl (fun hc => ?_) (fun hc => ?_)) <;> refine D_R rfl rfl (fun W hW => AP rfl (AB rfl Z3)) (A8 ?_))
    ·have ecc : cc = true := by rw [← hcc, hr']; simp; exact .inr (by assumption)
     subst ecc
     repeat refine nx rfl ?_
     exact An () ⟨rfl, rfl, rfl, rfl, rfl, rfl, rfl, rfl, trivial⟩ kd
    ·have ecc : cc = false := by rw [← hcc, hr']; simp [hk0]; assumption
     subst ecc
     repeat refine nx rfl ?_
     exact An () ⟨rfl, rfl, rfl, rfl, rfl, rfl, rfl, rfl, trivial⟩ kd
  rintro _ w3 f3 k3
  have hw3 := hw2.ext k3
  have k23 := k2.ext k3
  have hV3 := hV2.ext k3
  refine CE (α := Value) (fun _ => [(0, pt p), (1, .pointer (some ⟨b, o, none⟩)), (6, .int .i64 (k : Int)), (7, .pointer (some ⟨br, or + k * 8, none⟩)), (24, .slice (some ⟨br, or, none⟩) s.reqs.length rc), (25, .int .i64 (s.reqs.length : Int)), (26, .int .i64 (k : Int))])
   (fun v3 W => BV r.part = true ∧ WrB W p v3 (ut ++ if cc then [112, 97, 114, 116, 32] ++ (r.part ++ [32, 123, 10]) else []) ∧ Wrote p v v3 w W) ?_ ?_
  ·cases cc with
   | true =>
    repeat refine nx rfl ?_
    have hp3 := hprt w3 hV3 k r hr
    refine AA (AQ rfl (AQ rfl (AH rfl (AD rfl (AG rfl (by assumption) ?_)))))
    refine Aa (wname_ok w3 r.part (k23.gp hw hG hp).gk) rfl ?_ ?_
    rotate_left
    ·rintro ch w4 ⟨rfl, hb, rfl⟩
     repeat refine nx rfl ?_
     exact AY ⟨rfl, hbad (by simp [okRq, hb]), v2, k23⟩
    rintro _ w4 ⟨rfl, hnm, rfl⟩
    have hnl := (Bf hnm).2.1
    refine AV (out := [AL [112, 97, 114, 116, 32], AL r.part, AL [32, 123, 10]]) rfl (by omega) (by kernel_rfl) (fun w5 n5 => ?_)
    refine AS (CP (parts := [[112, 97, 114, 116, 32], r.part, [32, 123, 10]]) hw3 n5 (by simp) (by simp; omega)) rfl ?_
    rintro _ w6 ⟨v6, hw6, k6⟩
    repeat refine nx rfl ?_
    refine An v6 ⟨rfl, rfl, rfl, rfl, rfl, rfl, rfl, trivial⟩ ⟨hnm, ?_, k23.trans k6⟩
    rw [if_pos rfl]
    simpa using hw6
   | false =>
    repeat first | refine nx rfl ?_ | refine nf rfl ?_
    refine An v2 ⟨rfl, rfl, rfl, rfl, rfl, rfl, rfl, trivial⟩ ⟨?_, by simpa using hw3, k23⟩
    simp only [decide_eq_false_iff_not, not_or, ne_eq, Decidable.not_not] at hcc
    obtain ⟨r', hr', e⟩ := Option.map_eq_some_iff.1 hcc.2
    have := List.all_eq_true.1 hok r' (List.mem_of_getElem? (i := k - 1) (by rw [List.getElem?_take_of_lt (by omega)]; exact hr'))
    simp only [okRq, Bool.and_eq_true] at this
    rw [← e]; exact this.1
  rintro v3 w4 f4 ⟨hnm, hw4, k4⟩
  have hnl := (Bf hnm).2.1
  generalize hot : (if cc then [112, 97, 114, 116, 32] ++ (r.part ++ [32, 123, 10]) else [] : List UInt8) = ot at hw4
  have hotl : ot.length ≤ 20 := by rw [← hot]; split <;> simp; omega
  repeat refine nx rfl ?_
  refine AA (AQ rfl ?_)
  refine AV (out := [AL [32, 32]]) rfl (by omega) (by kernel_rfl) (fun w5 n5 => ?_)
  refine AS (CP (parts := [[32, 32]]) hw4 n5 (by simp) (by simp; omega)) rfl ?_
  rintro _ w6 ⟨v6, hw6, k6⟩
  repeat refine nx rfl ?_
  have k46 := k4.trans k6
  have hV6 := hV.wrote k46 hw
  have hG6 := k46.gp hw hG hp
  have hpa : PA reqR (fun b => b < p) w6 br (or + k * 8) r := by
   obtain ⟨_, _, e, hb6, hcr6⟩ := hV6.rs.row hV6.rr hd hlt
   cases e
   exact ⟨hb6, d, hcr6, hV6.rr.2 k d r hd hr⟩
  refine AA (AQ rfl (AQ rfl ?_))
  refine Aa (wreq_ok w6 p br (or + k * 8) v6 _ r hw6 hpa hG6 hp (by omega) (by simp; omega)) rfl ?_ ?_
  rotate_left
  ·rintro ch w7 ⟨rfl, hb, v7, k7⟩
   repeat refine nx rfl ?_
   exact AY ⟨rfl, hbad (by simp [okRq, hb]), v7, k46.trans k7⟩
  rintro _ w7 ⟨hrok, v7, hw7, k7⟩
  have hrtl := reqT_len hrok
  repeat refine nx rfl ?_
  have k47 := k46.trans k7
  refine AA (AQ rfl ?_)
  refine AV (out := [AL [59, 10]]) rfl (by omega) (by kernel_rfl) (fun w8 n8 => ?_)
  refine AS (CP (parts := [[59, 10]]) hw7 n8 (by simp) (by simp; omega)) rfl ?_
  rintro _ w9 ⟨v9, hw9, k9⟩
  have k49 := k47.trans k9
  have hV9 := hV.wrote k49 hw
  repeat' first | refine AJ ?_ | refine DH ?_ | refine DP ?_
  generalize hce : decide (k + 1 = s.reqs.length ∨ (s.reqs[k + 1]?).map (·.part) ≠ some r.part) = ce
  refine CE (α := Unit) (fun _ => [(0, pt p), (1, .pointer (some ⟨b, o, none⟩)), (24, .slice (some ⟨br, or, none⟩) s.reqs.length rc), (25, .int .i64 (s.reqs.length : Int)), (26, .int .i64 (k : Int)), (93, .bool ce)]) (fun _ W => Ext w9 W) ?_ ?_
  ·refine Bb (.read 0 (.read 1 (.read 2 (.read 3 (.read 4 (.read 5 (.read 6 (.read 7 (.read 8 (.read 9 (.read 10 (.read 11 (.read 12 (.read 13 (.read 14 (.read 15 (.read 16 (.read 17 (.read 18 (.read 19 (.read 20 (.read 21 (.read 22 (.read 23 .done)))))))))))))))))))))))) BP (by kernel_rfl) (fun wd kd ed => ⟨Ext wd, ?_, ?_⟩)
   ·exact Ext.refl _
   have fsv : ∀ W, Ext wd W → W.cell? ⟨b, o + 1, none⟩ = some (.slice (some ⟨br, or, none⟩) s.reqs.length rc) := fun W e => ((hV9.ext kd).ext e).c1
   have fr0 : ∀ W, Ext wd W → W.cell? ⟨br, or + k * 8 + 0, none⟩ = some (AL r.part) := fun W e => hprt W ((hV9.ext kd).ext e) k r hr
   by_cases hk0 : k + 1 = s.reqs.length
   ·have ecc : ce = true := by rw [← hce]; simp [hk0]
    subst ecc
    (refine D_R rfl rfl (fun W hW => AF rfl Z3) ?_ <;> (apply D_R rfl rfl; (intro W hW; refine BK rfl rfl (by first | exact Am (by omega) (by omega) | exact At (by omega) (by omega) | exact Al (by omega) (by omega)) ?_; exact Z3)) <;> refine D_R rfl rfl (fun W hW => AQ rfl Z3) (D_R rfl rfl (fun W hW => AH rfl Z3) (D_R rfl rfl (fun W hW => AD rfl Z3) (D_R rfl rfl (fun W hW => AG rfl (fsv W hW) Z3) (D_R rfl rfl (fun W hW => As rfl Z3) (D_eqlT rfl rfl rfl rfl (by omega) (D_R rfl rfl (fun W hW => AB rfl Z3) (Af rfl rfl rfl rfl (Af rfl rfl rfl rfl (Af rfl rfl rfl rfl (Af rfl rfl rfl rfl (Af rfl rfl rfl rfl (Af rfl rfl rfl rfl (Af rfl rfl rfl rfl (Af rfl rfl rfl rfl (Af rfl rfl rfl rfl (Af rfl rfl rfl rfl (Af rfl rfl rfl rfl (Af rfl rfl rfl rfl (Af rfl rfl rfl rfl (Af rfl rfl rfl rfl (D_R rfl rfl (fun W hW => AK rfl (AB rfl Z3)) (A8 ?_)))))))))))))))))))))))
    repeat refine nx rfl ?_
    exact An () ⟨rfl, rfl, rfl, rfl, rfl, rfl, trivial⟩ kd
   ·obtain ⟨r', hr'⟩ : ∃ r', s.reqs[k + 1]? = some r' := ⟨_, List.getElem?_eq_getElem (by omega)⟩
    have fp0 : ∀ W, Ext wd W → W.cell? ⟨br, or + ((k : Int) + 1).toNat * 8 + 0, none⟩ = some (AL r'.part) := fun W e => by
     rw [show ((k : Int) + 1).toNat = k + 1 by omega]
     exact hprt W ((hV9.ext kd).ext e) (k + 1) r' hr'
    have fp1 : ∀ W, Ext wd W → W.cell? ⟨br, or + (k + 1) * 8 + 0, none⟩ = some (AL r'.part) := fun W e => hprt W ((hV9.ext kd).ext e) (k + 1) r' hr'
    (refine D_R rfl rfl (fun W hW => AF rfl Z3) ?_ <;> (apply D_R rfl rfl; (intro W hW; refine BK rfl rfl (by first | exact Am (by omega) (by omega) | exact At (by omega) (by omega) | exact Al (by omega) (by omega)) ?_; exact Z3)) <;> refine D_R rfl rfl (fun W hW => AQ rfl Z3) (D_R rfl rfl (fun W hW => AH rfl Z3) (D_R rfl rfl (fun W hW => AD rfl Z3) (D_R rfl rfl (fun W hW => AG rfl (fsv W hW) Z3) (D_R rfl rfl (fun W hW => As rfl Z3) (D_eqlF rfl rfl rfl rfl (by omega) (D_R rfl rfl (fun W hW => AB rfl Z3) (D_R rfl rfl (fun W hW => AE rfl (AQ rfl Z3)) (D_R rfl rfl (fun W hW => AE rfl (AH rfl Z3)) (D_R rfl rfl (fun W hW => AE rfl (AD rfl Z3)) (D_R rfl rfl (fun W hW => AE rfl (AG rfl (fsv W hW) Z3)) (D_R rfl rfl (fun W hW => AE rfl (AF rfl Z3)) ?_))))))))))) <;> (apply D_R rfl rfl; (intro W hW; (refine AE rfl ?_; refine BK rfl rfl (by first | exact Am (by omega) (by omega) | exact At (by omega) (by omega) | exact Al (by omega) (by omega)) ?_); exact Z3)) <;> refine D_R rfl rfl (fun W hW => AE rfl (BO rfl rfl (by omega) (by omega) Z3)) (D_R rfl rfl (fun W hW => AE rfl (AD rfl Z3)) (D_R rfl rfl (fun W hW => AE rfl (AG rfl (fp0 W hW) Z3)) (D_R rfl rfl (fun W hW => AE rfl (AQ rfl Z3)) (D_R rfl rfl (fun W hW => AE rfl (AH rfl Z3)) (D_R rfl rfl (fun W hW => AE rfl (AD rfl Z3)) (D_R rfl rfl (fun W hW => AE rfl (AG rfl (fr0 W hW) Z3)) ?_)))))) <;> (refine D_sneq rfl rfl rfl rfl (fun hc => ?_) (fun hc => ?_)) <;> refine D_R rfl rfl (fun W hW => AP rfl (AB rfl Z3)) (A8 ?_))
    ·have ecc : ce = true := by rw [← hce, hr']; simp; exact .inr (by assumption)
     subst ecc
     repeat refine nx rfl ?_
     exact An () ⟨rfl, rfl, rfl, rfl, rfl, rfl, trivial⟩ kd
    ·have ecc : ce = false := by rw [← hce, hr']; simp [hk0]; assumption
     subst ecc
     repeat refine nx rfl ?_
     exact An () ⟨rfl, rfl, rfl, rfl, rfl, rfl, trivial⟩ kd
  rintro _ w10 f10 k10
  have hw10 := hw9.ext k10
  have k410 := k49.ext k10
  have hrq : okRq r = true := by simp [okRq, hnm, hrok]
  have ext1 : s.reqs.take (k + 1) = s.reqs.take k ++ [r] := by rw [List.take_add_one, hr]; rfl
  have hok' : (s.reqs.take (k + 1)).all okRq = true := by rw [ext1, List.all_append, hok]; simp [hrq]
  have hot2 : (if k = 0 ∨ (s.reqs[k - 1]?).map (·.part) ≠ some r.part then [112, 97, 114, 116, 32] ++ (r.part ++ [32, 123, 10]) else [] : List UInt8) = ot := by
   rw [← hot, ← hcc]; simp only [decide_eq_true_eq]
  have htext : tt ++ (List.range (k + 1)).flatMap (rqI s.reqs) = ut ++ ot ++ [[32, 32]].flatten ++ reqT r ++ [[59, 10]].flatten ++ (if ce then [125, 10] else []) := by
   rw [List.range_succ, List.flatMap_append, ← List.append_assoc, hut]
   have e : rqI s.reqs k = ot ++ ([32, 32] ++ (reqT r ++ ([59, 10] ++ (if ce then [125, 10] else [])))) := by
    unfold rqI
    rw [hr]
    simp only
    rw [hot2, ← hce]
    simp only [decide_eq_true_eq]
   simp [e]
  cases ce with
  | true =>
   repeat refine nx rfl ?_
   refine AA (AQ rfl ?_)
   refine AV (out := [AL [125, 10]]) rfl (by omega) (by kernel_rfl) (fun w11 n11 => ?_)
   refine AS (CP (parts := [[125, 10]]) hw10 n11 (by simp) (by simp; omega)) rfl ?_
   rintro _ w12 ⟨v12, hw12, k12⟩
   repeat refine nx rfl ?_
   have hw12' : WrB w12 p v12 (tt ++ (List.range (k + 1)).flatMap (rqI s.reqs)) := by
    rw [htext, if_pos rfl]
    simpa using hw12
   (refine AA (BK rfl rfl (by first | exact Am (by omega) (by omega) | exact At (by omega) (by omega) | exact Al (by omega) (by omega)) ?_) <;> refine AF rfl ?_)
   repeat refine nx rfl ?_
   refine ⟨(k + 1, v12), ⟨rfl, ⟨rfl, rfl, rfl, rfl, ?_, trivial⟩, ⟨hlt, hok', hw12', (k410.trans k12)⟩⟩, by simp only; omega⟩
   show Value.int .i64 ((k : Int) + 1) = _
   rw [Int.natCast_add]; rfl
  | false =>
   repeat first | refine nx rfl ?_ | refine nf rfl ?_
   have hw12' : WrB w10 p v9 (tt ++ (List.range (k + 1)).flatMap (rqI s.reqs)) := by
    rw [htext, if_neg (by simp)]
    simpa using hw10
   (refine AA (BK rfl rfl (by first | exact Am (by omega) (by omega) | exact At (by omega) (by omega) | exact Al (by omega) (by omega)) ?_) <;> refine AF rfl ?_)
   repeat refine nx rfl ?_
   refine ⟨(k + 1, v9), ⟨rfl, ⟨rfl, rfl, rfl, rfl, ?_, trivial⟩, ⟨hlt, hok', hw12', k410⟩⟩, by simp only; omega⟩
   show Value.int .i64 ((k : Int) + 1) = _
   rw [Int.natCast_add]; rfl
 ·refine AA (BA rfl rfl (by omega) ?_)
  repeat first | refine nx rfl ?_ | refine nf rfl ?_
  have e : k = s.reqs.length := by omega
  subst e
  rw [List.take_length] at hok
  refine A1 rfl ⟨by simp [CL, hoks, hok], v2, ?_, k2⟩
  have e : t ++ spcT s = tt ++ (List.range s.reqs.length).flatMap (rqI s.reqs) := by rw [← htt]; simp [spcT, rqsT]
  rw [e]
  exact hw2
end Go.Proofs.YtfcgdbmoncnibaaGreatDoor
namespace Go.Proofs.YtfcgdbmoncnibaaGreatDoor
open Go.RowKit
set_option linter.unusedVariables false
def blankB (r : Rqm) : Bool := r.part.isEmpty && decide (r.kind = 0) && decide (r.formula.op = 0) && r.formula.name.isEmpty && decide (r.formula.val = 0) && decide (r.formula.bound = 0) && r.formula.args.isEmpty
set_option maxHeartbeats 1600000 in
theorem wblank_ok (w : World) (b o : Nat) (r : Rqm) (hf : PA reqR A0 w b o r) :
  Fn Tryz.prog 85 [.pointer (some ⟨b, o, none⟩)] w (fun u w' => u = .bool (blankB r) ∧ w' = w) := by
 obtain ⟨_, d', hcl, d, rfl, hd, hfa⟩ := id hf
 obtain ⟨av, e, L, hS, hFA, _⟩ := hfa.form
 obtain ⟨a, c, rfl, _⟩ := id hS
 have e := congrArg Array.toList (Value.agg.inj e)
 have e : d = fcC r.formula (.slice a r.formula.args.length c) := e
 subst e
 have c0 : w.cell? ⟨b, o + 0, none⟩ = some (AL r.part) := hcl 0 _ rfl
 have c2 : w.cell? ⟨b, o + 2, none⟩ = some (.int .i64 r.kind) := hcl 2 _ rfl
 have c3 : w.cell? ⟨b, o + 3 + 0, none⟩ = some (.int .i64 r.formula.op) := hcl 3 _ rfl
 have c4 : w.cell? ⟨b, o + 3 + 1, none⟩ = some (AL r.formula.name) := hcl 4 _ rfl
 have c5 : w.cell? ⟨b, o + 3 + 2, none⟩ = some (.int .i64 r.formula.val) := hcl 5 _ rfl
 have c6 : w.cell? ⟨b, o + 3 + 3, none⟩ = some (.int .i64 r.formula.bound) := hcl 6 _ rfl
 have c7 : w.cell? ⟨b, o + 3 + 4, none⟩ = some (.slice a r.formula.args.length c) := hcl 7 _ rfl
 refine Ab Tryz.func85 rfl Tryz.ntmps85 (Nat.le_of_ble_eq_true rfl) (by kernel_rfl) ?_
 repeat refine nx rfl ?_
 refine AA (AC (AB rfl ?_))
 repeat refine nx rfl ?_
 refine AA (AQ rfl (AH rfl (AD rfl (AC (AQ rfl ?_)))))
 repeat refine nx rfl ?_
 (refine AA (AQ rfl (AH rfl (AD rfl (AG rfl (by assumption) ?_)))) <;> refine CM rfl rfl (fun hc => ?_) (fun hc => ?_) <;> refine AB rfl ?_ <;> (first | refine AI rfl ?_ | (refine AE rfl ?_; refine AQ rfl ?_)) <;> (first | refine AI rfl ?_ | (refine AE rfl ?_; refine AH rfl ?_)) <;> (first | refine AI rfl ?_ | (refine AE rfl ?_; refine AD rfl ?_)) <;> (first | refine AI rfl ?_ | (refine AE rfl ?_; refine AG rfl (by assumption) ?_)) <;> (first | refine AI rfl ?_ | (refine AE rfl ?_; (refine B0 rfl rfl (fun hc => ?_) (fun hc => ?_) <;> try omega))) <;> ((first | refine AK rfl ?_ | refine AP rfl ?_); refine AB rfl ?_) <;> refine AB rfl ?_ <;> (first | refine AI rfl ?_ | (refine AE rfl ?_; refine AQ rfl ?_)) <;> (first | refine AI rfl ?_ | (refine AE rfl ?_; refine AH rfl ?_)) <;> (first | refine AI rfl ?_ | (refine AE rfl ?_; refine AD rfl ?_)) <;> (first | refine AI rfl ?_ | (refine AE rfl ?_; refine AG rfl (by assumption) ?_)) <;> (first | refine AI rfl ?_ | (refine AE rfl ?_; (refine B0 rfl rfl (fun hc => ?_) (fun hc => ?_) <;> try omega))) <;> ((first | refine AK rfl ?_ | refine AP rfl ?_); refine AB rfl ?_) <;> refine AB rfl ?_ <;> (first | refine AI rfl ?_ | (refine AE rfl ?_; refine AQ rfl ?_)) <;> (first | refine AI rfl ?_ | (refine AE rfl ?_; refine AH rfl ?_)) <;> (first | refine AI rfl ?_ | (refine AE rfl ?_; refine AD rfl ?_)) <;> (first | refine AI rfl ?_ | (refine AE rfl ?_; refine AG rfl (by assumption) ?_)) <;> (first | refine AI rfl ?_ | (refine AE rfl ?_; refine CM rfl rfl (fun hc => ?_) (fun hc => ?_))) <;> ((first | refine AK rfl ?_ | refine AP rfl ?_); refine AB rfl ?_) <;> refine AB rfl ?_ <;> (first | refine AI rfl ?_ | (refine AE rfl ?_; refine AQ rfl ?_)) <;> (first | refine AI rfl ?_ | (refine AE rfl ?_; refine AH rfl ?_)) <;> (first | refine AI rfl ?_ | (refine AE rfl ?_; refine AD rfl ?_)) <;> (first | refine AI rfl ?_ | (refine AE rfl ?_; refine AG rfl (by assumption) ?_)) <;> (first | refine AI rfl ?_ | (refine AE rfl ?_; (refine B0 rfl rfl (fun hc => ?_) (fun hc => ?_) <;> try omega))) <;> ((first | refine AK rfl ?_ | refine AP rfl ?_); refine AB rfl ?_) <;> refine AB rfl ?_ <;> (first | refine AI rfl ?_ | (refine AE rfl ?_; refine AQ rfl ?_)) <;> (first | refine AI rfl ?_ | (refine AE rfl ?_; refine AH rfl ?_)) <;> (first | refine AI rfl ?_ | (refine AE rfl ?_; refine AD rfl ?_)) <;> (first | refine AI rfl ?_ | (refine AE rfl ?_; refine AG rfl (by assumption) ?_)) <;> (first | refine AI rfl ?_ | (refine AE rfl ?_; (refine B0 rfl rfl (fun hc => ?_) (fun hc => ?_) <;> try omega))) <;> ((first | refine AK rfl ?_ | refine AP rfl ?_); refine AB rfl ?_) <;> refine AB rfl ?_ <;> (first | refine AI rfl ?_ | (refine AE rfl ?_; refine AQ rfl ?_)) <;> (first | refine AI rfl ?_ | (refine AE rfl ?_; refine AH rfl ?_)) <;> (first | refine AI rfl ?_ | (refine AE rfl ?_; refine AD rfl ?_)) <;> (first | refine AI rfl ?_ | (refine AE rfl ?_; refine AG rfl (by assumption) ?_)) <;> (first | refine AI rfl ?_ | (refine AE rfl ?_; refine As rfl ?_)) <;> (first | refine AI rfl ?_ | (refine AE rfl ?_; (refine B0 rfl rfl (fun hc => ?_) (fun hc => ?_) <;> try omega))) <;> ((first | refine AK rfl ?_ | refine AP rfl ?_); refine AB rfl ?_) <;> refine AC (AB rfl (AJ ?_)))
 all_goals
  repeat refine nx rfl ?_
  refine AO rfl ⟨congrArg Value.bool ?_, rfl⟩
  clear hcl hfa hS hd hf c0 c2 c3 c4 c5 c6 c7
  simp [blankB, *]
 all_goals
  first
  | exact List.length_eq_zero_iff.1 (by omega)
  | (intro h0; rw [h0] at hc; exact hc rfl)
def edtT (e : Edt) : List UInt8 := if e.kind = 2 then [100, 114, 111, 112, 32] ++ e.req.name else (if e.kind = 1 then [97, 100, 100, 32] else [114, 101, 112, 108, 97, 99, 101, 32]) ++ (e.req.part ++ [32]) ++ reqT e.req
def okE (e : Edt) : Bool := if e.kind = 2 then blankB e.req && BV e.req.name else (decide (e.kind = 1) || decide (e.kind = 3)) && BV e.req.part && okR e.req
set_option maxHeartbeats 1600000 in
theorem wedit_ok (w : World) (p b o : Nat) (v : Value) (t : List UInt8) (e : Edt) (hw : WrB w p v t) (hf : PA edtR (fun b => b < p) w b o e) (hG : GP w) (hp : 10 ≤ p) (hz : szF e.req.formula ≤ 1000000) (hl : t.length ≤ 999000000) :
  FnP Tryz.prog 51 [pt p, .pointer (some ⟨b, o, none⟩)] w (fun _ w' => WAns p v t (edtT e) (okE e) w w') (WPan p v (okE e) w) := by
 obtain ⟨hb, _, hcl, d, rfl, hfit⟩ := id hf
 have hreq : PA reqR (fun b => b < p) w b (o + 1) e.req := ⟨hb, d, fun i u hu => by
  have := hcl (1 + i) u (by rw [Nat.add_comm]; exact hu)
  rw [← Nat.add_assoc] at this
  exact this, hfit⟩
 obtain ⟨_, _, hcl2, d5, rfl, _⟩ := id hreq
 have h0 : w.cell? ⟨b, o + 0, none⟩ = some (.int .i64 e.kind) := hcl 0 _ rfl
 have h10 : w.cell? ⟨b, o + 1 + 0, none⟩ = some (AL e.req.part) := hcl2 0 _ rfl
 have h11 : w.cell? ⟨b, o + 1 + 1, none⟩ = some (AL e.req.name) := hcl2 1 _ rfl
 refine Ar Tryz.func51 rfl Tryz.ntmps51 (Nat.le_of_ble_eq_true rfl) (by kernel_rfl) ?_
 repeat refine nx rfl ?_
 (refine AA (AQ rfl (AH rfl (AD rfl (AG rfl (by assumption) ?_)))))
 repeat refine nx rfl ?_
 by_cases e1 : e.kind = 1
 ·have en2 : ¬ e.kind = 2 := by omega
  refine AA (Av rfl rfl (by omega) (AC (AB rfl ?_)))
  repeat refine nx rfl ?_
  refine AA (AQ rfl (AQ rfl (AH rfl (AD rfl (AD rfl (AG rfl (by assumption) ?_))))))
  refine Aa (wname_ok w e.req.part hG.gk) rfl ?_ ?_
  rotate_left
  ·rintro ch w2 ⟨rfl, hb, rfl⟩
   repeat refine nx rfl ?_
   exact AY ⟨rfl, by simp [okE, e1, hb], v, Wrote.refl _ _ _⟩
  rintro _ w2 ⟨rfl, hnm, rfl⟩
  have hnl := (Bf hnm).2.1
  refine AV (out := [AL [97, 100, 100, 32], AL e.req.part, AL [32]]) rfl (by omega) (by kernel_rfl) (fun w3 n3 => ?_)
  refine AS (CP (parts := [[97, 100, 100, 32], e.req.part, [32]]) hw n3 (by simp) (by simp; omega)) rfl ?_
  rintro _ w4 ⟨v4, hw4, k4⟩
  repeat refine nx rfl ?_
  refine AA (AQ rfl (AQ rfl (AH rfl (AD rfl ?_))))
  refine Aa (wreq_ok w4 p b (o + 1) v4 _ e.req hw4 (hreq.wrote k4 hw) (k4.gp hw hG hp) hp hz (by simp; omega)) rfl ?_ ?_
  rotate_left
  ·rintro ch w5 ⟨rfl, hb, v5, k5⟩
   repeat refine nx rfl ?_
   exact AY ⟨rfl, by simp [okE, e1, hb], v5, k4.trans k5⟩
  rintro _ w5 ⟨hok, v5, hw5, k5⟩
  repeat refine nx rfl ?_
  refine A1 rfl ⟨by simp [okE, e1, hnm, hok], v5, ?_, k4.trans k5⟩
  have ee : t ++ edtT e = t ++ [[97, 100, 100, 32], e.req.part, [32]].flatten ++ reqT e.req := by simp [edtT, e1]
  rw [ee]
  exact hw5
 by_cases e3 : e.kind = 3
 ·have en2 : ¬ e.kind = 2 := by omega
  refine AA (AN rfl rfl (by omega) (AC (AB rfl ?_)))
  repeat first | refine nx rfl ?_ | refine nf rfl ?_
  refine AA (Av rfl rfl (by omega) (AC (AB rfl ?_)))
  repeat refine nx rfl ?_
  refine AA (AQ rfl (AQ rfl (AH rfl (AD rfl (AD rfl (AG rfl (by assumption) ?_))))))
  refine Aa (wname_ok w e.req.part hG.gk) rfl ?_ ?_
  rotate_left
  ·rintro ch w2 ⟨rfl, hb, rfl⟩
   repeat refine nx rfl ?_
   exact AY ⟨rfl, by simp [okE, e3, hb], v, Wrote.refl _ _ _⟩
  rintro _ w2 ⟨rfl, hnm, rfl⟩
  have hnl := (Bf hnm).2.1
  refine AV (out := [AL [114, 101, 112, 108, 97, 99, 101, 32], AL e.req.part, AL [32]]) rfl (by omega) (by kernel_rfl) (fun w3 n3 => ?_)
  refine AS (CP (parts := [[114, 101, 112, 108, 97, 99, 101, 32], e.req.part, [32]]) hw n3 (by simp) (by simp; omega)) rfl ?_
  rintro _ w4 ⟨v4, hw4, k4⟩
  repeat refine nx rfl ?_
  refine AA (AQ rfl (AQ rfl (AH rfl (AD rfl ?_))))
  refine Aa (wreq_ok w4 p b (o + 1) v4 _ e.req hw4 (hreq.wrote k4 hw) (k4.gp hw hG hp) hp hz (by simp; omega)) rfl ?_ ?_
  rotate_left
  ·rintro ch w5 ⟨rfl, hb, v5, k5⟩
   repeat refine nx rfl ?_
   exact AY ⟨rfl, by simp [okE, e3, hb], v5, k4.trans k5⟩
  rintro _ w5 ⟨hok, v5, hw5, k5⟩
  repeat refine nx rfl ?_
  refine A1 rfl ⟨by simp [okE, e3, hnm, hok], v5, ?_, k4.trans k5⟩
  have ee : t ++ edtT e = t ++ [[114, 101, 112, 108, 97, 99, 101, 32], e.req.part, [32]].flatten ++ reqT e.req := by simp [edtT, e3]
  rw [ee]
  exact hw5
 by_cases e2 : e.kind = 2
 ·refine AA (AN rfl rfl (by omega) (AC (AB rfl ?_)))
  repeat first | refine nx rfl ?_ | refine nf rfl ?_
  refine AA (AN rfl rfl (by omega) (AC (AB rfl ?_)))
  repeat first | refine nx rfl ?_ | refine nf rfl ?_
  refine AA (Av rfl rfl (by omega) (AC (AB rfl ?_)))
  repeat refine nx rfl ?_
  refine AA (AQ rfl (AH rfl (AD rfl ?_)))
  refine AS (wblank_ok w b (o + 1) e.req (hreq.mono fun _ _ => trivial)) rfl ?_
  rintro _ w1 ⟨rfl, rfl⟩
  refine Aa (Bz w1 (blankB e.req)) rfl ?_ ?_
  rotate_left
  ·rintro ch w2 ⟨rfl, hb2, rfl⟩
   repeat refine nx rfl ?_
   exact AY ⟨rfl, by simp [okE, e2, hb2], v, Wrote.refl _ _ _⟩
  rintro _ w2 ⟨rfl, hbl, rfl⟩
  repeat refine nx rfl ?_
  refine AA (AQ rfl (AQ rfl (AH rfl (AD rfl (AD rfl (AG rfl (by assumption) ?_))))))
  refine Aa (wname_ok w2 e.req.name hG.gk) rfl ?_ ?_
  rotate_left
  ·rintro ch w3 ⟨rfl, hb3, rfl⟩
   repeat refine nx rfl ?_
   exact AY ⟨rfl, by simp [okE, e2, hb3], v, Wrote.refl _ _ _⟩
  rintro _ w3 ⟨rfl, hnm, rfl⟩
  have hnl := (Bf hnm).2.1
  refine AV (out := [AL [100, 114, 111, 112, 32], AL e.req.name]) rfl (by omega) (by kernel_rfl) (fun w4 n4 => ?_)
  refine AS (CP (parts := [[100, 114, 111, 112, 32], e.req.name]) hw n4 (by simp) (by simp; omega)) rfl ?_
  rintro _ w5 ⟨v5, hw5, k5⟩
  repeat refine nx rfl ?_
  refine A1 rfl ⟨by simp [okE, e2, hbl, hnm], v5, ?_, k5⟩
  have ee : t ++ edtT e = t ++ [[100, 114, 111, 112, 32], e.req.name].flatten := by simp [edtT, e2]
  rw [ee]
  exact hw5
 ·refine AA (AN rfl rfl (by omega) (AC (AB rfl ?_)))
  repeat first | refine nx rfl ?_ | refine nf rfl ?_
  refine AA (AN rfl rfl (by omega) (AC (AB rfl ?_)))
  repeat first | refine nx rfl ?_ | refine nf rfl ?_
  refine AA (AN rfl rfl (by omega) (AC (AB rfl ?_)))
  repeat first | refine nx rfl ?_ | refine nf rfl ?_
  refine AA ?_
  refine Aa (Bz w false) rfl ?_ ?_
  ·rintro v w6 ⟨_, hb, _⟩; cases hb
  rintro ch w6 ⟨rfl, _, rfl⟩
  repeat refine nx rfl ?_
  exact AY ⟨rfl, by simp [okE, e1, e2, e3], v, Wrote.refl _ _ _⟩
end Go.Proofs.YtfcgdbmoncnibaaGreatDoor
