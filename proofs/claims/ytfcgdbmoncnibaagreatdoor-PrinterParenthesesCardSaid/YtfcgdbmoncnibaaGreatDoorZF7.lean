/- The reference: formulas built, requirements compared. The reference: requirements, signals, specifications, edits compared. The parser: tables, tokens of a text, the deferred calls. The parser: the deferred calls. The parser: a whole text. What the parser answers, as an outcome. The mode in which nothing is told of frozen cells. What the parser answers, and that what it makes bears no mark. Formulas at an address. The table of forms; a signal found by its name; the formula true. How many nodes a formula has. Conditions: none. -/
import Derived.Test.YtfcgdbmoncnibaaGreatDoorZF6

namespace Go.Proofs.YtfcgdbmoncnibaaGreatDoor
open Go.RowKit
set_option linter.unusedVariables false
variable {mk : Prop} [MK mk]
abbrev FV (w : World) (v : Value) (f : Fml) : Prop := FAt BH w v f
theorem rop_ok (w : World) (op : Int) (ok : Nat → Prop) (a : Option Addr) (c : Nat) (L : List (List Value)) (l : List Fml) (hS : Sl ok w (.slice a l.length c) l.length L.flatten) (hF : FsAt ok w L l) :
  Fn Tryz.prog 36 [.int .i64 op, .slice a l.length c] w fun v w' => Ext w w' ∧ FAt ok w' v ⟨op, [], 0, 0, l⟩ := by
 refine Ad Tryz.func36 rfl Tryz.ntmps36 (Nat.le_of_ble_eq_true rfl) (by kernel_rfl) ?_
 repeat refine nx rfl ?_
 refine AA ?_
 refine Aw (fun w1 n1 => ?_)
 have b1 : Blk w1 w.heap.size 24 Cc := n1.blk
 repeat refine nx rfl ?_
 refine AA (AH rfl (Ah rfl (Ac (by rfl) (by rfl) ?_)))
 refine Aa (cs := [.int .i64 op, AM [], .int .i64 0, .int .i64 0, .slice a l.length c]) rfl rfl rfl (Bj rfl) b1 (by simp [Cc]) (fun w2 p2 => ?_)
 have b2 : Blk w2 w.heap.size 24 [.int .i64 op, AM [], .int .i64 0, .int .i64 0, .slice a l.length c] := p2.blk
 repeat refine nx rfl ?_
 have k2 : Ext w w2 := n1.keep.keep p2.keep (by simp)
 exact A6 rfl rfl rfl b2.cells ⟨k2, FAt.node op [] 0 0 (hS.ext k2) (hF.ext k2)⟩
theorem rlate_ok (w : World) (op val : Int) (ok : Nat → Prop) (a : Option Addr) (c : Nat) (L : List (List Value)) (l : List Fml) (hS : Sl ok w (.slice a l.length c) l.length L.flatten) (hF : FsAt ok w L l) :
  Fn Tryz.prog 37 [.int .i64 op, .int .i64 val, .slice a l.length c] w fun v w' => Ext w w' ∧ FAt ok w' v ⟨op, [], val, 0, l⟩ := by
 refine Ad Tryz.func37 rfl Tryz.ntmps37 (Nat.le_of_ble_eq_true rfl) (by kernel_rfl) ?_
 repeat refine nx rfl ?_
 refine AA ?_
 refine Aw (fun w1 n1 => ?_)
 have b1 : Blk w1 w.heap.size 24 Cc := n1.blk
 repeat refine nx rfl ?_
 refine AA (AH rfl (AH rfl (Ah rfl (Ac (by rfl) (by rfl) ?_))))
 refine Aa (cs := [.int .i64 op, AM [], .int .i64 val, .int .i64 0, .slice a l.length c]) rfl rfl rfl (Bj rfl) b1 (by simp [Cc]) (fun w2 p2 => ?_)
 have b2 : Blk w2 w.heap.size 24 [.int .i64 op, AM [], .int .i64 val, .int .i64 0, .slice a l.length c] := p2.blk
 repeat refine nx rfl ?_
 have k2 : Ext w w2 := n1.keep.keep p2.keep (by simp)
 exact A6 rfl rfl rfl b2.cells ⟨k2, FAt.node op [] val 0 (hS.ext k2) (hF.ext k2)⟩
theorem ris_ok (w : World) (s : List UInt8) (n : Int) : Fn Tryz.prog 33 [AM s, .int .i64 n] w fun v w' => Ext w w' ∧ FV w' v (isF s n) := by
 refine Ad Tryz.func33 rfl Tryz.ntmps33 (Nat.le_of_ble_eq_true rfl) (by kernel_rfl) ?_
 repeat refine nx rfl ?_
 refine AA ?_
 refine Aw (fun w1 n1 => ?_)
 have b1 : Blk w1 w.heap.size 24 Cc := n1.blk
 repeat refine nx rfl ?_
 refine AA (AY rfl (AH rfl (Ac (by rfl) (by rfl) ?_)))
 refine Aa (cs := [.int .i64 3, AM s, .int .i64 n, .int .i64 0, .slice none 0 0]) rfl rfl rfl (Bj rfl) b1 (by simp [Cc]) (fun w2 p2 => ?_)
 have b2 : Blk w2 w.heap.size 24 [.int .i64 3, AM s, .int .i64 n, .int .i64 0, .slice none 0 0] := p2.blk
 repeat refine nx rfl ?_
 exact A6 rfl rfl rfl b2.cells ⟨n1.keep.keep p2.keep (by simp), FAt.leaf _ _ _ _ _ _⟩
theorem FAt.ret {ok : Nat → Prop} {w w' : World} {v : Value} {f : Fml} {b : Nat} {cs : List Value} (h : FAt (fun x => ok x ∧ x ≠ b) w v f) (e : v = .agg cs.toArray) (k : Keep [b] w w') : FAt ok w' (.agg cs.toArray) f := by
 rw [← e]
 exact (h.keep k (fun x hx => by simpa using hx.2)).mono fun x hx => hx.1
theorem roneX_ok (w : World) (op : Int) (ok : Nat → Prop) (v : Value) (f : Fml) (hf : FAt ok w v f) (hk : ok w.heap.size) (hk2 : ∀ x, w.heap.size ≤ x → ok x) : Fn Tryz.prog 35 [.int .i64 op, v] w fun v w' => Ext w w' ∧ FAt ok w' v ⟨op, [], 0, 0, [f]⟩ := by
 have hflt := hf.lt
 obtain ⟨cs, rfl, hcs, hone⟩ := hf.cells
 obtain ⟨c0, c1, c2, c3, c4, rfl⟩ := CW hcs
 refine Ad Tryz.func35 rfl Tryz.ntmps35 (Nat.le_of_ble_eq_true rfl) (by kernel_rfl) ?_
 repeat refine nx rfl ?_
 (refine AA ?_; refine Bs (L := [c0, c1, c2, c3, c4]) rfl (fun w1 n1 => ?_))
 refine Aw (fun w2 n2 => ?_)
 have a2 := n1.blk.keep n2.keep (by simp)
 have b2 : Blk w2 w1.heap.size 24 Cc := n2.blk
 have k2 : Ext w w2 := n1.keep.trans n2.keep
 have z1 := n1.size
 have z2 := n2.size
 repeat refine nx rfl ?_
 refine AA (AH rfl ?_)
 refine AW rfl a2 rfl ?_
 refine AT (out := [c0, c1, c2, c3, c4]) rfl (by omega) (by rw [made5]; rfl) (fun w3 n3 => ?_)
 have z3 := n3.size
 obtain ⟨S3, F3⟩ := FsAt.fresh (ok := fun x => ok x ∧ x ≠ w1.heap.size) (L := [[c0, c1, c2, c3, c4]]) n3 (FsAt.one ((hflt.ext k2).mono fun x hx => ⟨hx.1, by omega⟩) rfl) ⟨hk2 _ (by omega), by omega⟩ (by simp)
 refine AS (rop_ok w3 op _ _ _ _ [f] S3 F3) rfl ?_
 rintro v w4 ⟨k4, f4⟩
 have b4 := (b2.keep n3.keep (by simp)).keep k4 (by simp)
 refine Bo rfl rfl f4 b4 rfl (fun w5 cs e hcs k5 z5 b5 => ?_)
 repeat refine nx rfl ?_
 exact A6 rfl rfl hcs b5.cells ⟨((k2.trans n3.keep).trans k4).keep k5 (by simp; omega), f4.ret e k5⟩
theorem rone_ok (w : World) (op : Int) (v : Value) (f : Fml) (hf : FV w v f) : Fn Tryz.prog 35 [.int .i64 op, v] w fun v w' => Ext w w' ∧ FV w' v ⟨op, [], 0, 0, [f]⟩ := roneX_ok w op BH v f hf trivial fun _ _ => trivial
theorem rtwoX_ok (w : World) (op : Int) (ok : Nat → Prop) (v v' : Value) (f g : Fml) (hf : FAt ok w v f) (hg : FAt ok w v' g) (hk2 : ∀ x, w.heap.size ≤ x → ok x) : Fn Tryz.prog 34 [.int .i64 op, v, v'] w fun v w' => Ext w w' ∧ FAt ok w' v ⟨op, [], 0, 0, [f, g]⟩ := by
 have hflt := hf.lt
 have hglt := hg.lt
 obtain ⟨cs, rfl, hcs, hone⟩ := hf.cells
 obtain ⟨ds, rfl, hds, hone2⟩ := hg.cells
 obtain ⟨c0, c1, c2, c3, c4, rfl⟩ := CW hcs
 obtain ⟨d0, d1, d2, d3, d4, rfl⟩ := CW hds
 refine Ad Tryz.func34 rfl Tryz.ntmps34 (Nat.le_of_ble_eq_true rfl) (by kernel_rfl) ?_
 repeat refine nx rfl ?_
 (refine AA ?_; refine Bs (L := [c0, c1, c2, c3, c4]) rfl (fun w1 n1 => ?_))
 refine Bs (L := [d0, d1, d2, d3, d4]) rfl (fun w2 n2 => ?_)
 refine Aw (fun w3 n3 => ?_)
 have a3 := (n1.blk.keep n2.keep (by simp)).keep n3.keep (by simp)
 have d3' := n2.blk.keep n3.keep (by simp)
 have b3 : Blk w3 w2.heap.size 24 Cc := n3.blk
 have k3 : Ext w w3 := (n1.keep.trans n2.keep).trans n3.keep
 have z1 := n1.size
 have z2 := n2.size
 have z3 := n3.size
 repeat refine nx rfl ?_
 refine AA (AH rfl ?_)
 refine AW rfl a3 rfl ?_
 refine AW rfl d3' rfl ?_
 refine AT (out := [c0, c1, c2, c3, c4, d0, d1, d2, d3, d4]) rfl (by omega) (by rw [made10]; rfl) (fun w4 n4 => ?_)
 have z4 := n4.size
 obtain ⟨S4, F4⟩ := FsAt.fresh (ok := fun x => ok x ∧ x ≠ w2.heap.size) (L := [[c0, c1, c2, c3, c4], [d0, d1, d2, d3, d4]]) n4 (FsAt.two ((hflt.ext k3).mono fun x hx => ⟨hx.1, by omega⟩) rfl ((hglt.ext k3).mono fun x hx => ⟨hx.1, by omega⟩) rfl) ⟨hk2 _ (by omega), by omega⟩ (by simp)
 refine AS (rop_ok w4 op _ _ _ _ [f, g] S4 F4) rfl ?_
 rintro v w5 ⟨k5, f5⟩
 have b5 := (b3.keep n4.keep (by simp)).keep k5 (by simp)
 refine Bo rfl rfl f5 b5 rfl (fun w6 cs e hcs k6 z6 b6 => ?_)
 repeat refine nx rfl ?_
 exact A6 rfl rfl hcs b6.cells ⟨((k3.trans n4.keep).trans k5).keep k6 (by simp; omega), f5.ret e k6⟩
theorem Cy (w : World) (op : Int) (v v' : Value) (f g : Fml) (hf : FV w v f) (hg : FV w v' g) : Fn Tryz.prog 34 [.int .i64 op, v, v'] w fun v w' => Ext w w' ∧ FV w' v ⟨op, [], 0, 0, [f, g]⟩ := rtwoX_ok w op BH v v' f g hf hg fun _ _ => trivial
theorem FAt.any {ok ok' : Nat → Prop} {w w' : World} {v : Value} {f : Fml} (h : FAt ok w v f) (h0 : f.args = []) : FAt ok' w' v f := by
 cases h with
 | mk op nm vl bd args av L hS hL h5 hA =>
  have h0' : args = [] := h0
  subst h0'
  obtain ⟨a, c, rfl, h1, h2, h3, _⟩ := hS
  exact .mk op nm vl bd [] _ [] ⟨a, c, rfl, h1, h2, h3, .inl rfl⟩ rfl (fun c hc => by cases hc) (fun i c g h => by simp at h)
end Go.Proofs.YtfcgdbmoncnibaaGreatDoor
namespace Go.Proofs.YtfcgdbmoncnibaaGreatDoor
open Go.RowKit
set_option linter.unusedVariables false
variable {mk : Prop} [MK mk]
theorem rqm_eq {r s : Rqm} : r = s ↔ r.part = s.part ∧ r.name = s.name ∧ r.kind = s.kind ∧ r.formula = s.formula := by
 obtain ⟨a, b, c, d⟩ := r; obtain ⟨a', b', c', d'⟩ := s; simp
theorem sameReq_ok (w : World) (c d : List Value) (r s : Rqm) (hr : reqR.fits BH w c r) (hs : reqR.fits BH w d s) : Fn Tryz.prog 63 [.agg c.toArray, .agg d.toArray] w fun v w' => ∃ b : Bool, v = .bool b ∧ (b = true ↔ r = s) ∧ Ext w w' := by
 obtain ⟨c', rfl, hc5, hcf⟩ := hr
 obtain ⟨d', rfl, hd5, hdf⟩ := hs
 obtain ⟨c0, c1, c2, c3, c4, rfl⟩ := CW hc5
 obtain ⟨d0, d1, d2, d3, d4, rfl⟩ := CW hd5
 refine Ad Tryz.func63 rfl Tryz.ntmps63 (Nat.le_of_ble_eq_true rfl) (by kernel_rfl) ?_
 repeat refine nx rfl ?_
 (refine AA ?_; refine Bs (L := [AM r.part, AM r.name, .int .i64 r.kind, c0, c1, c2, c3, c4]) rfl (fun w1 n1 => ?_))
 refine Bs (L := [AM s.part, AM s.name, .int .i64 s.kind, d0, d1, d2, d3, d4]) rfl (fun w2 n2 => ?_)
 have a2 := n1.blk.keep n2.keep (by simp)
 have b2 := n2.blk
 have k2 : Ext w w2 := n1.keep.trans n2.keep
 refine AB (AC rfl ?_)
 repeat refine nx rfl ?_
 have ca : Cells w2 w.heap.size 3 [c0, c1, c2, c3, c4] := by
  have := a2.cells.part 3 5
  simpa using this
 have cb : Cells w2 w1.heap.size 3 [d0, d1, d2, d3, d4] := by
  have := b2.cells.part 3 5
  simpa using this
 (refine AA (AD rfl (AG rfl (Blk.cell (by assumption) (by rfl)) ?_)) <;> refine AD rfl (AG rfl (Blk.cell (by assumption) (by rfl)) ?_) <;> refine CK rfl rfl (fun hc => ?_) (fun hc => ?_) <;> refine AC rfl ?_ <;> (first | refine AJ rfl ?_ | (refine AE rfl ?_; refine AD rfl ?_)) <;> (first | refine AJ rfl ?_ | (refine AE rfl ?_; refine AG rfl (Blk.cell (by assumption) (by rfl)) ?_)) <;> (first | refine AJ rfl ?_ | (refine AE rfl ?_; refine AD rfl ?_)) <;> (first | refine AJ rfl ?_ | (refine AE rfl ?_; refine AG rfl (Blk.cell (by assumption) (by rfl)) ?_)) <;> (first | refine AJ rfl ?_ | (refine AE rfl ?_; refine CK rfl rfl (fun hc => ?_) (fun hc => ?_))) <;> ((first | refine AO rfl ?_ | refine AQ rfl ?_); refine AC rfl ?_) <;> refine AC rfl ?_ <;> (first | refine AJ rfl ?_ | (refine AE rfl ?_; refine AD rfl ?_)) <;> (first | refine AJ rfl ?_ | (refine AE rfl ?_; refine AG rfl (Blk.cell (by assumption) (by rfl)) ?_)) <;> (first | refine AJ rfl ?_ | (refine AE rfl ?_; refine AD rfl ?_)) <;> (first | refine AJ rfl ?_ | (refine AE rfl ?_; refine AG rfl (Blk.cell (by assumption) (by rfl)) ?_)) <;> (first | refine AJ rfl ?_ | (refine AE rfl ?_; (refine By rfl rfl (fun hc => ?_) (fun hc => ?_) <;> try omega))) <;> ((first | refine AO rfl ?_ | refine AQ rfl ?_); refine AC rfl ?_) <;> refine AC rfl ?_ <;> (first | refine AJ rfl ?_ | (refine AE rfl ?_; refine AD rfl ?_)))
 ·refine AE rfl (AZ (L := [c0, c1, c2, c3, c4]) rfl rfl ca ?_)
  refine AE rfl (AD rfl ?_)
  refine AE rfl (AZ (L := [d0, d1, d2, d3, d4]) rfl rfl cb ?_)
  refine AE rfl (AS (same_ok w2 _ _ r.formula s.formula (hcf.ext k2) (hdf.ext k2)) rfl ?_)
  rintro _ w3 ⟨b, rfl, hb, k3⟩
  refine AO rfl (AC rfl (AB (AC rfl ?_)))
  repeat refine nx rfl ?_
  exact AP rfl ⟨b, rfl, by rw [hb, rqm_eq]; exact ⟨fun h => ⟨by assumption, by assumption, by assumption, h⟩, fun h => h.2.2.2⟩, k2.trans k3⟩
 all_goals
  refine AJ rfl (AJ rfl (AJ rfl (AJ rfl (AQ rfl (AC rfl (AB (AC rfl ?_)))))))
  repeat refine nx rfl ?_
  refine AP rfl ⟨false, rfl, ?_, k2⟩
  rw [rqm_eq]
  constructor
  ·intro h; cases h
  ·rintro ⟨h1, h2, h3, h4⟩
   exfalso
   first | exact absurd h1 (by assumption) | exact absurd h2 (by assumption) | exact absurd h3 (by assumption)
theorem Sl.recs {α : Type} {R : Rp α} {ok : Nat → Prop} {w : World} {a : Option Addr} {n cap k sz : Nat} {L : List (List Value)} {l : List α} {c : List Value} (h : Sl ok w (.slice a n cap) n L.flatten) (hR : RsAt R ok w L l) (hsz : R.size = sz) (hk : L[k]? = some c) (hn : k < n) :
  ∃ b o, a = some ⟨b, o, none⟩ ∧ ok b ∧ Cells w b (o + k * sz) c := by
 obtain ⟨a', cap', hv, h1, h2, h3, h4⟩ := h
 cases hv
 obtain ⟨b, o, rfl, hb, hc⟩ := h4.resolve_left (by omega)
 refine ⟨b, o, rfl, hb, fun j v hv => ?_⟩
 have := hc _ _ (DD sz L k j c v (fun c hc => by rw [hR.len c hc, hsz]) hk hv)
 rwa [← Nat.add_assoc] at this
theorem SlAt.ext {α : Type} {R : Rp α} {ok : Nat → Prop} {w w' : World} {v : Value} {l : List α} (h : SlAt R ok w v l) (k : Ext w w') : SlAt R ok w' v l := by
 obtain ⟨a, c, L, e, h1, h2⟩ := h
 exact ⟨a, c, L, e, h1.ext k, h2.ext k⟩
theorem sameReqs_ok (w : World) (v v' : Value) (l m : List Rqm) (hl : SlAt reqR BH w v l) (hm : SlAt reqR BH w v' m) : Fn Tryz.prog 60 [v, v'] w fun v w' => ∃ b : Bool, v = .bool b ∧ (b = true ↔ l = m) ∧ Ext w w' := by
 obtain ⟨a, c, L, rfl, hS, hF⟩ := hl
 obtain ⟨a', c', M, rfl, hS', hF'⟩ := hm
 have hlm : l.length ≤ 9223372036854775807 := by obtain ⟨_, _, hv, g1, g2, _⟩ := id hS; cases hv; omega
 refine Ad Tryz.func60 rfl Tryz.ntmps60 (Nat.le_of_ble_eq_true rfl) (by kernel_rfl) ?_
 repeat refine nx rfl ?_
 refine AA (AB (AC rfl ?_))
 repeat refine nx rfl ?_
 by_cases hlen : l.length = m.length
 ·refine AA (Ah rfl (As rfl (Ah rfl (As rfl (W_neqF rfl rfl (by omega) ?_)))))
  repeat first | refine nx rfl ?_ | refine nf rfl ?_
  refine AA (AB (AH rfl ?_))
  repeat refine nx rfl ?_
  refine BY (α := Nat) (fun k => [(0, .slice a l.length c), (1, .slice a' m.length c'), (5, .int .i64 (k : Int))]) (fun k W => k ≤ l.length ∧ Ext w W ∧ ∀ j, j < k → l[j]? = m[j]?) (fun k => l.length - k) 0 ⟨rfl, rfl, rfl, trivial⟩ ⟨by omega, Ext.refl _, fun j hj => by omega⟩ ?_
  rintro k w3 f3 ⟨hk, k3, hj⟩
  repeat refine nx rfl ?_
  by_cases hlt : k < l.length
  ·obtain ⟨x, hx⟩ : ∃ x, l[k]? = some x := ⟨_, List.getElem?_eq_getElem hlt⟩
   obtain ⟨y, hy⟩ : ∃ y, m[k]? = some y := ⟨_, List.getElem?_eq_getElem (by omega)⟩
   obtain ⟨cx, hcx⟩ : ∃ cx, L[k]? = some cx := ⟨_, List.getElem?_eq_getElem (by rw [hF.1]; exact hlt)⟩
   obtain ⟨cy, hcy⟩ : ∃ cy, M[k]? = some cy := ⟨_, List.getElem?_eq_getElem (by rw [hF'.1]; omega)⟩
   have fx := reqR.ext (hF.2 k cx x hcx hx) k3
   have fy := reqR.ext (hF'.2 k cy y hcy hy) k3
   obtain ⟨bx, ox, rfl, _, hcellx⟩ := (hS.ext k3).recs (hF.ext k3) (sz := 8) rfl hcx hlt
   obtain ⟨by', oy, rfl, _, hcelly⟩ := (hS'.ext k3).recs (hF'.ext k3) (sz := 8) rfl hcy (by omega)
   have hlx : cx.length = 8 := reqR.len fx
   have hly : cy.length = 8 := reqR.len fy
   refine AA (AH rfl (Ah rfl (As rfl (BM rfl rfl (by omega) ?_))))
   repeat refine nx rfl ?_
   refine A7 (.read 0 (.read 1 (.read 2 (.read 3 (.read 4 (.read 5 (.read 6 (.read 7 (.alt 8 (.read 9 .done) .stop))))))))) BA (by kernel_rfl) (fun wd kd ed => ⟨Ext wd, ?_, ?_⟩)
   ·exact Ext.refl _
   refine D_R rfl rfl (fun W hW => by refine Ax ?_; exact AI ⟨rfl, rfl, rfl⟩) ?_
   refine D_R rfl rfl (fun W hW => by refine Ax ?_; exact AI ⟨rfl, rfl, rfl⟩) ?_
   refine D_R rfl rfl (fun W hW => by refine CH (k := k) rfl rfl rfl (by omega) ?_; exact AI ⟨rfl, rfl, rfl⟩) ?_
   refine D_R (v := .agg cx.toArray) rfl rfl (fun W hW => by refine AZ rfl hlx ((hcellx.keep kd (by simp)).keep hW (by simp)) ?_; exact AI ⟨rfl, rfl, rfl⟩) ?_
   refine D_R rfl rfl (fun W hW => by refine Ax ?_; exact AI ⟨rfl, rfl, rfl⟩) ?_
   refine D_R rfl rfl (fun W hW => by refine Ax ?_; exact AI ⟨rfl, rfl, rfl⟩) ?_
   refine D_R rfl rfl (fun W hW => by refine CH (k := k) rfl rfl rfl (by omega) ?_; exact AI ⟨rfl, rfl, rfl⟩) ?_
   refine D_R (v := .agg cy.toArray) rfl rfl (fun W hW => by refine AZ rfl hly ((hcelly.keep kd (by simp)).keep hW (by simp)) ?_; exact AI ⟨rfl, rfl, rfl⟩) ?_
   refine D_E rfl ?_
   refine AS (sameReq_ok wd cx cy x y (reqR.ext fx kd) (reqR.ext fy kd)) rfl ?_
   rintro _ w6 ⟨b, rfl, hb, k6⟩
   refine AI ⟨Ext w6, fun W e => k6.trans e, Ext.refl _, ?_⟩
   refine D_R rfl rfl (fun W hW => AB (AC rfl Z3)) (Ay ?_)
   repeat refine nx rfl ?_
   refine AA (AC rfl (BL rfl (AI ?_)))
   cases b with
   | true =>
    have hxy := hb.1 rfl
    subst hxy
    repeat first | refine nx rfl ?_ | refine nf rfl ?_
    (refine AA (AH rfl (BR rfl rfl (by first | exact Al (by omega) (by omega) | exact At (by omega) (by omega) | exact Am (by omega) (by omega)) ?_)) <;> refine AB (AH rfl ?_))
    repeat refine nx rfl ?_
    refine ⟨k + 1, ⟨rfl, ⟨rfl, rfl, ?_, trivial⟩, ⟨by omega, (k3.trans kd).trans k6, fun j hjj => ?_⟩⟩, by omega⟩
    ·show Value.int .i64 ((k : Int) + 1) = _
     rw [Int.natCast_add]; rfl
    ·by_cases hjk : j = k
     ·subst hjk; rw [hx, hy]
     ·exact hj j (by omega)
   | false =>
    repeat refine nx rfl ?_
    refine AA (AB (AC rfl ?_))
    repeat refine nx rfl ?_
    refine AP rfl ⟨false, rfl, ?_, (k3.trans kd).trans k6⟩
    constructor
    ·intro h; cases h
    ·intro h
     exfalso
     have e1 : x = y := by rw [h, hy] at hx; exact (Option.some.inj hx).symm
     have := hb.2 e1
     cases this
  ·refine AA (AH rfl (Ah rfl (As rfl (BN rfl rfl (by omega) ?_))))
   repeat first | refine nx rfl ?_ | refine nf rfl ?_
   refine AA (AB (AC rfl ?_))
   repeat refine nx rfl ?_
   refine AP rfl ⟨true, rfl, ?_, k3⟩
   refine ⟨fun _ => List.ext_getElem? fun i => ?_, fun _ => rfl⟩
   by_cases hi : i < k
   ·exact hj i hi
   ·rw [List.getElem?_eq_none (by omega), List.getElem?_eq_none (by omega)]
 ·refine AA (Ah rfl (As rfl (Ah rfl (As rfl (W_neqT rfl rfl (by omega) ?_)))))
  repeat refine nx rfl ?_
  refine AA (AB (AC rfl ?_))
  repeat refine nx rfl ?_
  exact AP rfl ⟨false, rfl, ⟨fun h => (by cases h), fun h => absurd (by rw [h]) hlen⟩, Ext.refl _⟩
theorem sgn_same (x y : Sgn) : ∀ p ∈ [(0, 9), (1, 4), (2, 3)], ∃ a b, (Ce x)[p.1]? = some a ∧ (Ce y)[p.1]? = some b ∧ sameSort Tryz.prog p.2 a b := by
 intro p hp
 simp only [List.mem_cons, List.not_mem_nil, or_false] at hp
 rcases hp with rfl | rfl | rfl
 ·exact ⟨_, _, rfl, rfl, Tryz.underlying9⟩
 ·exact ⟨_, _, rfl, rfl, Tryz.underlying4⟩
 ·exact ⟨_, _, rfl, rfl, rfl, Tryz.underlying3⟩
theorem sgn_eq {x y : Sgn} (h : ∀ p ∈ ([(0, 9), (1, 4), (2, 3)] : List (Nat × TypeId)), (Ce x)[p.1]? = (Ce y)[p.1]?) : x = y := by
 have h0 := h (0, 9) (by simp)
 have h1 := h (1, 4) (by simp)
 have h2 := h (2, 3) (by simp)
 cases x; cases y
 simp [Ce] at h0 h1 h2
 simp [h0, h1, h2]
theorem sameSgn_ok (w : World) (v v' : Value) (l m : List Sgn) (hl : SlAt sgnR BH w v l) (hm : SlAt sgnR BH w v' m) : Fn Tryz.prog 59 [v, v'] w fun v w' => ∃ b : Bool, v = .bool b ∧ (b = true ↔ l = m) ∧ Ext w w' := by
 obtain ⟨a, c, L, rfl, hS, hF⟩ := hl
 obtain ⟨a', c', M, rfl, hS', hF'⟩ := hm
 have hlm : l.length ≤ 9223372036854775807 := by obtain ⟨_, _, hv, g1, g2, _⟩ := id hS; cases hv; omega
 refine Ad Tryz.func59 rfl Tryz.ntmps59 (Nat.le_of_ble_eq_true rfl) (by kernel_rfl) ?_
 repeat refine nx rfl ?_
 refine AA (AB (AC rfl ?_))
 repeat refine nx rfl ?_
 by_cases hlen : l.length = m.length
 ·refine AA (Ah rfl (As rfl (Ah rfl (As rfl (W_neqF rfl rfl (by omega) ?_)))))
  repeat first | refine nx rfl ?_ | refine nf rfl ?_
  refine AA (AB (AH rfl ?_))
  repeat refine nx rfl ?_
  refine BY (α := Nat) (fun k => [(0, .slice a l.length c), (1, .slice a' m.length c'), (5, .int .i64 (k : Int))]) (fun k W => k ≤ l.length ∧ Ext w W ∧ ∀ j, j < k → l[j]? = m[j]?) (fun k => l.length - k) 0 ⟨rfl, rfl, rfl, trivial⟩ ⟨by omega, Ext.refl _, fun j hj => by omega⟩ ?_
  rintro k w3 f3 ⟨hk, k3, hj⟩
  repeat refine nx rfl ?_
  by_cases hlt : k < l.length
  ·obtain ⟨x, hx⟩ : ∃ x, l[k]? = some x := ⟨_, List.getElem?_eq_getElem hlt⟩
   obtain ⟨y, hy⟩ : ∃ y, m[k]? = some y := ⟨_, List.getElem?_eq_getElem (by omega)⟩
   obtain ⟨cx, hcx⟩ : ∃ cx, L[k]? = some cx := ⟨_, List.getElem?_eq_getElem (by rw [hF.1]; exact hlt)⟩
   obtain ⟨cy, hcy⟩ : ∃ cy, M[k]? = some cy := ⟨_, List.getElem?_eq_getElem (by rw [hF'.1]; omega)⟩
   obtain rfl : cx = Ce x := hF.2 k cx x hcx hx
   obtain rfl : cy = Ce y := hF'.2 k cy y hcy hy
   obtain ⟨bx, ox, rfl, _, hcellx⟩ := (hS.ext k3).recs (hF.ext k3) (sz := 3) rfl hcx hlt
   obtain ⟨by', oy, rfl, _, hcelly⟩ := (hS'.ext k3).recs (hF'.ext k3) (sz := 3) rfl hcy (by omega)
   refine AA (AH rfl (Ah rfl (As rfl (BM rfl rfl (by omega) ?_))))
   repeat refine nx rfl ?_
   refine A7 (.read 0 (.read 1 (.read 2 (.read 3 (.read 4 (.read 5 (.read 6 (.read 7 (.read 8 .done))))))))) BA (by kernel_rfl) (fun wd kd ed => ⟨fun W => W = wd, ?_, ?_⟩)
   ·rfl
   refine D_R rfl rfl (fun W hW => by refine Ax ?_; exact AI ⟨rfl, rfl, rfl⟩) ?_
   refine D_R rfl rfl (fun W hW => by refine Ax ?_; exact AI ⟨rfl, rfl, rfl⟩) ?_
   refine D_R rfl rfl (fun W hW => by refine CH (k := k) rfl rfl rfl (by omega) ?_; exact AI ⟨rfl, rfl, rfl⟩) ?_
   refine D_R (v := .agg (Ce x).toArray) rfl rfl (fun W hW => by subst hW; refine AZ rfl rfl (hcellx.keep kd (by simp)) ?_; exact AI ⟨rfl, rfl, rfl⟩) ?_
   refine D_R rfl rfl (fun W hW => by refine Ax ?_; exact AI ⟨rfl, rfl, rfl⟩) ?_
   refine D_R rfl rfl (fun W hW => by refine Ax ?_; exact AI ⟨rfl, rfl, rfl⟩) ?_
   refine D_R rfl rfl (fun W hW => by refine CH (k := k) rfl rfl rfl (by omega) ?_; exact AI ⟨rfl, rfl, rfl⟩) ?_
   refine D_R (v := .agg (Ce y).toArray) rfl rfl (fun W hW => by subst hW; refine AZ rfl rfl (hcelly.keep kd (by simp)) ?_; exact AI ⟨rfl, rfl, rfl⟩) ?_
   by_cases hxy : x = y
   ·subst hxy
    refine D_R (v := .bool false) rfl rfl (fun W hW => ?_) ?_
    ·refine W_flNeq (xs := Ce x) (ys := Ce x) rfl rfl (sgn_same x x) (fun r hr => ?_)
     obtain rfl : r = true := hr.2 fun _ _ => rfl
     exact AI ⟨rfl, rfl, rfl⟩
    refine Ay ?_
    repeat first | refine nx rfl ?_ | refine nf rfl ?_
    (refine AA (AH rfl (BR rfl rfl (by first | exact Al (by omega) (by omega) | exact At (by omega) (by omega) | exact Am (by omega) (by omega)) ?_)) <;> refine AB (AH rfl ?_))
    repeat refine nx rfl ?_
    refine ⟨k + 1, ⟨rfl, ⟨rfl, rfl, ?_, trivial⟩, ⟨by omega, k3.trans kd, fun j hjj => ?_⟩⟩, by omega⟩
    ·show Value.int .i64 ((k : Int) + 1) = _
     rw [Int.natCast_add]; rfl
    ·by_cases hjk : j = k
     ·subst hjk; rw [hx, hy]
     ·exact hj j (by omega)
   ·refine D_R (v := .bool true) rfl rfl (fun W hW => ?_) ?_
    ·refine W_flNeq (xs := Ce x) (ys := Ce y) rfl rfl (sgn_same x y) (fun r hr => ?_)
     obtain rfl : r = false := by
      cases r with
      | false => rfl
      | true => exact absurd (sgn_eq (hr.1 rfl)) hxy
     exact AI ⟨rfl, rfl, rfl⟩
    refine Ay ?_
    repeat refine nx rfl ?_
    refine AA (AB (AC rfl ?_))
    repeat refine nx rfl ?_
    refine AP rfl ⟨false, rfl, ?_, k3.trans kd⟩
    constructor
    ·intro h; cases h
    ·intro h
     exfalso
     apply hxy
     rw [h, hy] at hx; exact (Option.some.inj hx).symm
  ·refine AA (AH rfl (Ah rfl (As rfl (BN rfl rfl (by omega) ?_))))
   repeat first | refine nx rfl ?_ | refine nf rfl ?_
   refine AA (AB (AC rfl ?_))
   repeat refine nx rfl ?_
   refine AP rfl ⟨true, rfl, ?_, k3⟩
   refine ⟨fun _ => List.ext_getElem? fun i => ?_, fun _ => rfl⟩
   by_cases hi : i < k
   ·exact hj i hi
   ·rw [List.getElem?_eq_none (by omega), List.getElem?_eq_none (by omega)]
 ·refine AA (Ah rfl (As rfl (Ah rfl (As rfl (W_neqT rfl rfl (by omega) ?_)))))
  repeat refine nx rfl ?_
  refine AA (AB (AC rfl ?_))
  repeat refine nx rfl ?_
  exact AP rfl ⟨false, rfl, ⟨fun h => (by cases h), fun h => absurd (by rw [h]) hlen⟩, Ext.refl _⟩
theorem spc_eq {r s : Spc} : r = s ↔ r.sigs = s.sigs ∧ r.reqs = s.reqs := by
 obtain ⟨a, b⟩ := r; obtain ⟨a', b'⟩ := s; simp
theorem sameSpec_ok (w : World) (c d : List Value) (r s : Spc) (hr : spcR.fits BH w c r) (hs : spcR.fits BH w d s) : Fn Tryz.prog 25 [.agg c.toArray, .agg d.toArray] w fun v w' => ∃ b : Bool, v = .bool b ∧ (b = true ↔ r = s) ∧ Ext w w' := by
 obtain ⟨sv, rv, rfl, h1, h2⟩ := hr
 obtain ⟨sv', rv', rfl, h1', h2'⟩ := hs
 have e1 := h1
 have e2 := h2
 have e1' := h1'
 have e2' := h2'
 obtain ⟨_, _, _, rfl, _⟩ := e1
 obtain ⟨_, _, _, rfl, _⟩ := e2
 obtain ⟨_, _, _, rfl, _⟩ := e1'
 obtain ⟨_, _, _, rfl, _⟩ := e2'
 refine Ad Tryz.func25 rfl Tryz.ntmps25 (Nat.le_of_ble_eq_true rfl) (by kernel_rfl) ?_
 repeat refine nx rfl ?_
 (refine AA ?_; refine Bs (L := [_, _]) rfl (fun w1 n1 => ?_))
 refine Bs (L := [_, _]) rfl (fun w2 n2 => ?_)
 have a2 := n1.blk.keep n2.keep (by simp)
 have b2 := n2.blk
 have k2 : Ext w w2 := n1.keep.trans n2.keep
 refine AB (AC rfl ?_)
 repeat refine nx rfl ?_
 (refine AA (AD rfl (AG rfl (Blk.cell (by assumption) (by rfl)) ?_)) <;> refine AD rfl (AG rfl (Blk.cell (by assumption) (by rfl)) ?_))
 refine AS (sameSgn_ok w2 _ _ _ _ (h1.ext k2) (h1'.ext k2)) rfl ?_
 rintro _ w3 ⟨b, rfl, hb, k3⟩
 have a3 := a2.keep k3 (by simp)
 have b3 := b2.keep k3 (by simp)
 cases b with
 | true =>
  (refine AC rfl (AE rfl (AD rfl (AE rfl (AG rfl (Blk.cell (by assumption) (by rfl)) ?_)))) <;> refine AE rfl (AD rfl (AE rfl (AG rfl (Blk.cell (by assumption) (by rfl)) ?_))))
  refine AE rfl (AS (sameReqs_ok w3 _ _ _ _ ((h2.ext k2).ext k3) ((h2'.ext k2).ext k3)) rfl ?_)
  rintro _ w4 ⟨b, rfl, hb2, k4⟩
  refine AO rfl (AC rfl (AB (AC rfl ?_)))
  repeat refine nx rfl ?_
  exact AP rfl ⟨b, rfl, by rw [hb2, spc_eq]; exact ⟨fun h => ⟨hb.1 rfl, h⟩, fun h => h.2⟩, (k2.trans k3).trans k4⟩
 | false =>
  refine AC rfl (AJ rfl (AJ rfl (AJ rfl (AJ rfl ?_))))
  refine AJ rfl (AQ rfl (AC rfl (AB (AC rfl ?_))))
  repeat refine nx rfl ?_
  refine AP rfl ⟨false, rfl, ?_, k2.trans k3⟩
  rw [spc_eq]
  exact ⟨fun h => (by cases h), fun h => absurd (hb.2 h.1) (by simp)⟩
end Go.Proofs.YtfcgdbmoncnibaaGreatDoor
namespace Go.Proofs.YtfcgdbmoncnibaaGreatDoor
open Go.RowKit
set_option linter.unusedVariables false
variable {mk : Prop} [MK mk]
theorem infixes_ok (w : World) : Fn Tryz.prog 90 [] w fun v w' => ∃ m, v = .map (some m) ∧ w.heap.size ≤ m ∧ Ext w w' ∧ SMap w' m (tabV infixT) := by
 refine Ad Tryz.func90 rfl Tryz.ntmps90 (Nat.le_of_ble_eq_true rfl) (by kernel_rfl) ?_
 repeat refine nx rfl ?_
 refine AA (AB (M_map rfl ?_))
 repeat refine nx rfl ?_
 refine AA ?_
 refine W_makeMapS (fun w1 k1 z1 b1 => ?_)
 refine Ac (by rfl) (by rfl) ?_
 refine CC (x := [85]) (y := oprV ⟨9, 0, 0⟩) rfl rfl rfl b1 rfl (fun w2 k2 z2 b2 => ?_)
 refine Ac (by rfl) (by rfl) ?_
 refine CC (x := [82]) (y := oprV ⟨10, 0, 0⟩) rfl rfl rfl b2 rfl (fun w3 k3 z3 b3 => ?_)
 refine Ac (by rfl) (by rfl) ?_
 refine CC (x := [83]) (y := oprV ⟨16, 16, 0⟩) rfl rfl rfl b3 rfl (fun w4 k4 z4 b4 => ?_)
 refine Ac (by rfl) (by rfl) ?_
 refine CC (x := [84]) (y := oprV ⟨17, 17, 1⟩) rfl rfl rfl b4 rfl (fun w5 k5 z5 b5 => ?_)
 refine M_map rfl (AB (M_map rfl ?_))
 repeat refine nx rfl ?_
 exact AP rfl ⟨w.heap.size, rfl, Nat.le_refl _, (((k1.keep k2 (by simp)).keep k3 (by simp)).keep k4 (by simp)).keep k5 (by simp), b5⟩
theorem prefixes_ok (w : World) : Fn Tryz.prog 89 [] w fun v w' => ∃ m, v = .map (some m) ∧ w.heap.size ≤ m ∧ Ext w w' ∧ SMap w' m (tabV prefixT) := by
 refine Ad Tryz.func89 rfl Tryz.ntmps89 (Nat.le_of_ble_eq_true rfl) (by kernel_rfl) ?_
 repeat refine nx rfl ?_
 refine AA (AB (M_map rfl ?_))
 repeat refine nx rfl ?_
 refine AA ?_
 refine W_makeMapS (fun w1 k1 z1 b1 => ?_)
 refine Ac (by rfl) (by rfl) ?_
 refine CC (x := [33]) (y := oprV ⟨4, 0, 0⟩) rfl rfl rfl b1 rfl (fun w2 k2 z2 b2 => ?_)
 refine Ac (by rfl) (by rfl) ?_
 refine CC (x := [88]) (y := oprV ⟨8, 0, 0⟩) rfl rfl rfl b2 rfl (fun w3 k3 z3 b3 => ?_)
 refine Ac (by rfl) (by rfl) ?_
 refine CC (x := [89]) (y := oprV ⟨15, 0, 0⟩) rfl rfl rfl b3 rfl (fun w4 k4 z4 b4 => ?_)
 refine Ac (by rfl) (by rfl) ?_
 refine CC (x := [90]) (y := oprV ⟨15, 0, 1⟩) rfl rfl rfl b4 rfl (fun w5 k5 z5 b5 => ?_)
 refine Ac (by rfl) (by rfl) ?_
 refine CC (x := [79]) (y := oprV ⟨18, 0, 0⟩) rfl rfl rfl b5 rfl (fun w6 k6 z6 b6 => ?_)
 refine Ac (by rfl) (by rfl) ?_
 refine CC (x := [72]) (y := oprV ⟨19, 0, 0⟩) rfl rfl rfl b6 rfl (fun w7 k7 z7 b7 => ?_)
 refine Ac (by rfl) (by rfl) ?_
 refine CC (x := [70]) (y := oprV ⟨11, 13, 0⟩) rfl rfl rfl b7 rfl (fun w8 k8 z8 b8 => ?_)
 refine Ac (by rfl) (by rfl) ?_
 refine CC (x := [71]) (y := oprV ⟨12, 14, 0⟩) rfl rfl rfl b8 rfl (fun w9 k9 z9 b9 => ?_)
 refine M_map rfl (AB (M_map rfl ?_))
 repeat refine nx rfl ?_
 exact AP rfl ⟨w.heap.size, rfl, Nat.le_refl _, (((((((k1.keep k2 (by simp)).keep k3 (by simp)).keep k4 (by simp)).keep k5 (by simp)).keep k6 (by simp)).keep k7 (by simp)).keep k8 (by simp)).keep k9 (by simp), b9⟩
theorem takeWhile_all {p : UInt8 → Bool} : ∀ {l : List UInt8}, (l.takeWhile p).length = l.length → ∀ c ∈ l, p c = true
 | [], _, c, hc => by cases hc
 | x :: l, h, c, hc => by
  rw [List.takeWhile_cons] at h
  cases hp : p x with
  | false => rw [hp] at h; simp at h
  | true =>
   rw [hp] at h
   simp at h
   rcases List.mem_cons.1 hc with rfl | hc
   ·exact hp
   ·exact takeWhile_all h c hc
theorem Alone.wf {k : Int} {y : List UInt8} (h : Alone k y) : k = 2 → 1 ≤ y.length ∧ y.length ≤ 4 ∧ ∀ c ∈ y, A0 c = true := by
 rintro rfl
 obtain ⟨h1, h2, h3⟩ := h
 refine ⟨h1, ?_⟩
 unfold Bk at h3
 split at h3
 ·simp [blankM] at h3
 ·simp [commM] at h3
 ·unfold nameM at h3
  split at h3
  ·cases h3
  ·have := (addM_le h3).1; simp at this
 ·unfold numM at h3
  split at h3
  ·cases h3
  ·rename_i hb
   have e := Co h3
   have hd : ((y.takeWhile A0).length) = y.length := by simpa [A2] using e.symm
   refine ⟨?_, takeWhile_all hd⟩
   have hb' : Bh y 0 = false := by simpa using hb
   unfold Bh at hb'
   rw [← e] at hb'
   simp at hb'
   omega
 ·unfold symM at h3
  split at h3
  ·have := (addM_le h3).1; simp at this
  ·cases h3
 ·cases h3
theorem Reach1.cap {t : List UInt8} {a b : Nat} {ts tsb : List Tok} (h : Reach1 t a ts b tsb) (hc : ts.length ≤ 2000) : tsb.length ≤ 2000 := by
 induction h with
 | refl => exact hc
 | step h hs hr ih =>
  rename_i a a1 b ts ts1 tsb
  refine ih ?_
  rcases step_shape hs with rfl | ⟨k, rfl⟩
  ·exact hc
  ·have : ts.length ≠ 2000 := by
    intro e
    unfold Bk at hs
    split at hs
    ·simp [blankM] at hs
    ·simp [commM] at hs
    ·unfold nameM at hs
     split at hs
     ·cases hs
     ·exact (addM_le hs).2 e
    ·unfold numM at hs
     split at hs
     ·cases hs
     ·exact (addM_le hs).2 e
    ·unfold symM at hs
     split at hs
     ·exact (addM_le hs).2 e
     ·cases hs
    ·cases hs
   simp; omega
theorem lexM_toks {t : List UInt8} {ts : List Tok} (h : lexM t = .ok ts) : t.length ≤ 6000 ∧ ts.length ≤ 2000 ∧ ∀ x ∈ ts, TokWf x := by
 obtain ⟨hl, hr⟩ := lexM_ok h
 exact ⟨hl, hr.cap (by simp), fun x hx => ((hr.alone (Nat.le_refl _) (fun x hx => by cases hx)) x hx).wf⟩
end Go.Proofs.YtfcgdbmoncnibaaGreatDoor
namespace Go.Proofs.YtfcgdbmoncnibaaGreatDoor
open Go.RowKit
set_option linter.unusedVariables false
variable {mk : Prop} [MK mk]
theorem recRet_F (w : World) (c2 c3 c4 : Nat) : CallsDIn Fence.wide 0 Tryz.prog 104 ([] ++ [pt c2, pt c3, pt c4] : List Value).toArray .returning w (fun e u' w' => match e with | .returned _ => u' = .returning ∧ Ext w w' | _ => False) := by
 refine Ct (u1 := .returning) (v0 := .nilIface) (G := fun _ w' => Ext w w') (args := [pt c2, pt c3, pt c4]) Tryz.func104 rfl Tryz.ntmps104 (by simp) (by decide) (by kernel_rfl) (by kernel_rfl) (.inl ⟨rfl, rfl, rfl⟩) ?_
 refine W_assert_nil (z := .agg #[.int .i64 0, .int .i64 0]) rfl (by kernel_rfl) ?_
 refine Bn rfl (Af rfl rfl (Af rfl rfl ?_))
 refine BE (cs := [.int .i64 0, .int .i64 0]) rfl rfl (by rfl) (Bj rfl) (fun w2 n2 => ?_)
 refine AB (AC rfl ?_)
 repeat refine nx rfl ?_
 refine AA (AC rfl ?_)
 repeat first | refine nx rfl ?_ | refine nf rfl ?_
 exact Az rfl n2.keep
theorem recPan_F (w : World) (c2 c3 c4 : Nat) (L2 : List Value) (x3 x4 : Value) (e q : Int) (d2 : Blk w c2 24 L2) (hL2 : L2.length = ([.int .i64 0, AM [], .int .i64 0, .int .i64 0, .slice none 0 0] : List Value).length) (d3 : Blk w c3 44 [x3]) (d4 : Blk w c4 3 [x4]) (h23 : c2 ≠ c3) (h24 : c2 ≠ c4) (h34 : c3 ≠ c4) :
  CallsDIn Fence.wide 0 Tryz.prog 104 ([] ++ [pt c2, pt c3, pt c4] : List Value).toArray (.panicking [{ v := .iface 145 (.agg #[.int .i64 e, .int .i64 q]), recovered := false }]) w
   (fun en u' w' => match en with | .returned _ => u' = .panicking [{ v := .iface 145 (.agg #[.int .i64 e, .int .i64 q]), recovered := true }] ∧ (Keep [c2, c3, c4] w w' ∧ Blk w' c2 24 [.int .i64 0, AM [], .int .i64 0, .int .i64 0, .slice none 0 0] ∧ Blk w' c3 44 [.int .i64 e] ∧ Blk w' c4 3 [.int .i64 q]) | _ => False) := by
 have l2 := d2.lt
 have l3 := d3.lt
 have l4 := d4.lt
 refine Ct (u1 := .panicking [{ v := .iface 145 (.agg #[.int .i64 e, .int .i64 q]), recovered := true }]) (v0 := .iface 145 (.agg #[.int .i64 e, .int .i64 q]))
  (G := fun _ w' => Keep [c2, c3, c4] w w' ∧ Blk w' c2 24 [.int .i64 0, AM [], .int .i64 0, .int .i64 0, .slice none 0 0] ∧ Blk w' c3 44 [.int .i64 e] ∧ Blk w' c4 3 [.int .i64 q]) (args := [pt c2, pt c3, pt c4]) Tryz.func104 rfl Tryz.ntmps104 (by simp) (by decide) (by kernel_rfl) (by kernel_rfl) (.inr ⟨_, rfl, rfl, rfl⟩) ?_
 refine W_assert_yes rfl ?_
 refine Bn rfl (Af rfl rfl (Af rfl rfl ?_))
 refine BE (cs := [.int .i64 e, .int .i64 q]) rfl rfl (by rfl) (Bj rfl) (fun w2 n2 => ?_)
 have b2 := n2.blk
 have z2 := n2.size
 refine AB (AC rfl ?_)
 repeat refine nx rfl ?_
 refine AA (AC rfl ?_)
 repeat refine nx rfl ?_
 refine AA ?_
 refine Aw (fun w3 n3 => ?_)
 have z3 := n3.size
 have b3 : Blk w3 w2.heap.size 24 [.int .i64 0, AM [], .int .i64 0, .int .i64 0, .slice none 0 0] := n3.blk
 replace b2 := b2.keep n3.keep (by simp)
 have k3 : Ext w w3 := n2.keep.trans n3.keep
 replace d2 := d2.keep k3 (by simp)
 replace d3 := d3.keep k3 (by simp)
 replace d4 := d4.keep k3 (by simp)
 repeat refine nx rfl ?_
 refine A7 (.read 0 (.read 1 (.read 2 (.read 3 (.read 4 (.alt 5 (.alt 6 (.alt 7 .done .stop) .stop) .stop)))))) BA (by kernel_rfl) (fun wd kd ed => ⟨fun W => W.cell? ⟨w.heap.size, 0, none⟩ = some (.int .i64 e) ∧ W.cell? ⟨w.heap.size, 1, none⟩ = some (.int .i64 q) ∧ Cells W w2.heap.size 0 [.int .i64 0, AM [], .int .i64 0, .int .i64 0, .slice none 0 0], ?_, ?_⟩)
 ·exact ⟨(b2.keep kd (by simp)).cell rfl, (b2.keep kd (by simp)).cell rfl, (b3.keep kd (by simp)).cells⟩
 have fc0 : ∀ W : World, (W.cell? ⟨w.heap.size, 0, none⟩ = some (.int .i64 e) ∧ W.cell? ⟨w.heap.size, 1, none⟩ = some (.int .i64 q) ∧ Cells W w2.heap.size 0 [.int .i64 0, AM [], .int .i64 0, .int .i64 0, .slice none 0 0]) → W.cell? ⟨w.heap.size, 0, none⟩ = some (.int .i64 e) := fun W h => h.1
 have fc1 : ∀ W : World, (W.cell? ⟨w.heap.size, 0, none⟩ = some (.int .i64 e) ∧ W.cell? ⟨w.heap.size, 1, none⟩ = some (.int .i64 q) ∧ Cells W w2.heap.size 0 [.int .i64 0, AM [], .int .i64 0, .int .i64 0, .slice none 0 0]) → W.cell? ⟨w.heap.size, 1, none⟩ = some (.int .i64 q) := fun W h => h.2.1
 have fc2 : ∀ W : World, (W.cell? ⟨w.heap.size, 0, none⟩ = some (.int .i64 e) ∧ W.cell? ⟨w.heap.size, 1, none⟩ = some (.int .i64 q) ∧ Cells W w2.heap.size 0 [.int .i64 0, AM [], .int .i64 0, .int .i64 0, .slice none 0 0]) → Cells W w2.heap.size 0 [.int .i64 0, AM [], .int .i64 0, .int .i64 0, .slice none 0 0] := fun W h => h.2.2
 replace b2 := b2.keep kd (by simp)
 replace b3 := b3.keep kd (by simp)
 replace d2 := d2.keep kd (by simp)
 replace d3 := d3.keep kd (by simp)
 replace d4 := d4.keep kd (by simp)
 have k : Keep [c2, c3, c4] w wd := (k3.trans kd).any
 ((apply D_R rfl rfl; (intro W hW; refine AZ rfl (by rfl) (fc2 W hW) ?_; exact Z3)) <;> refine D_R rfl rfl (fun W hW => AD rfl Z3) (D_R rfl rfl (fun W hW => AG rfl (fc0 W hW) Z3) (D_R rfl rfl (fun W hW => AD rfl Z3) (D_R rfl rfl (fun W hW => AG rfl (fc1 W hW) Z3) ?_))))
 refine D_E rfl ?_
 refine Aa (cs := [.int .i64 0, AM [], .int .i64 0, .int .i64 0, .slice none 0 0]) rfl rfl rfl (Bj rfl) d2 (by rw [hL2]; simp) (fun W p => ?_)
 have bb := p.blk
 rw [Bu L2 [.int .i64 0, AM [], .int .i64 0, .int .i64 0, .slice none 0 0] (by rw [hL2])] at bb
 replace d3 := d3.keep p.keep (by simp; omega)
 replace d4 := d4.keep p.keep (by simp; omega)
 replace b2 := b2.keep p.keep (by simp; omega)
 replace b3 := b3.keep p.keep (by simp; omega)
 replace k := k.trans p.keep (by simp)
 clear d2 p
 have d2 := bb
 refine AI ⟨_, fun _ h => h, ⟨b2.cell rfl, b2.cell rfl, b3.cells⟩, ?_⟩
 refine D_E rfl ?_
 refine Ak rfl rfl rfl d3 (by simp) (fun W2 p => ?_)
 have bb3 := p.blk
 replace d2 := d2.keep p.keep (by simp; omega)
 replace d4 := d4.keep p.keep (by simp; omega)
 replace b2 := b2.keep p.keep (by simp; omega)
 replace b3 := b3.keep p.keep (by simp; omega)
 replace k := k.trans p.keep (by simp)
 clear d3 p
 refine AI ⟨_, fun _ h => h, ⟨b2.cell rfl, b2.cell rfl, b3.cells⟩, ?_⟩
 refine D_E rfl ?_
 refine Ak rfl rfl rfl d4 (by simp) (fun W3 p => ?_)
 have bb4 := p.blk
 replace d2 := d2.keep p.keep (by simp; omega)
 replace bb3 := bb3.keep p.keep (by simp; omega)
 replace b2 := b2.keep p.keep (by simp; omega)
 replace b3 := b3.keep p.keep (by simp; omega)
 replace k := k.trans p.keep (by simp)
 refine AI ⟨_, fun _ h => h, ⟨b2.cell rfl, b2.cell rfl, b3.cells⟩, ?_⟩
 refine Ay ?_
 repeat refine nx rfl ?_
 exact Az rfl ⟨k, d2, bb3, bb4⟩
theorem recRet_S (w : World) (c2 c3 c4 : Nat) : CallsDIn Fence.wide 0 Tryz.prog 88 ([] ++ [pt c2, pt c3, pt c4] : List Value).toArray .returning w (fun e u' w' => match e with | .returned _ => u' = .returning ∧ Ext w w' | _ => False) := by
 refine Ct (u1 := .returning) (v0 := .nilIface) (G := fun _ w' => Ext w w') (args := [pt c2, pt c3, pt c4]) Tryz.func88 rfl Tryz.ntmps88 (by simp) (by decide) (by kernel_rfl) (by kernel_rfl) (.inl ⟨rfl, rfl, rfl⟩) ?_
 refine W_assert_nil (z := .agg #[.int .i64 0, .int .i64 0]) rfl (by kernel_rfl) ?_
 refine Bn rfl (Af rfl rfl (Af rfl rfl ?_))
 refine BE (cs := [.int .i64 0, .int .i64 0]) rfl rfl (by rfl) (Bj rfl) (fun w2 n2 => ?_)
 refine AB (AC rfl ?_)
 repeat refine nx rfl ?_
 refine AA (AC rfl ?_)
 repeat first | refine nx rfl ?_ | refine nf rfl ?_
 exact Az rfl n2.keep
theorem recPan_S (w : World) (c2 c3 c4 : Nat) (L2 : List Value) (x3 x4 : Value) (e q : Int) (d2 : Blk w c2 28 L2) (hL2 : L2.length = ([.slice none 0 0, .slice none 0 0] : List Value).length) (d3 : Blk w c3 44 [x3]) (d4 : Blk w c4 3 [x4]) (h23 : c2 ≠ c3) (h24 : c2 ≠ c4) (h34 : c3 ≠ c4) :
  CallsDIn Fence.wide 0 Tryz.prog 88 ([] ++ [pt c2, pt c3, pt c4] : List Value).toArray (.panicking [{ v := .iface 145 (.agg #[.int .i64 e, .int .i64 q]), recovered := false }]) w
   (fun en u' w' => match en with | .returned _ => u' = .panicking [{ v := .iface 145 (.agg #[.int .i64 e, .int .i64 q]), recovered := true }] ∧ (Keep [c2, c3, c4] w w' ∧ Blk w' c2 28 [.slice none 0 0, .slice none 0 0] ∧ Blk w' c3 44 [.int .i64 e] ∧ Blk w' c4 3 [.int .i64 q]) | _ => False) := by
 have l2 := d2.lt
 have l3 := d3.lt
 have l4 := d4.lt
 refine Ct (u1 := .panicking [{ v := .iface 145 (.agg #[.int .i64 e, .int .i64 q]), recovered := true }]) (v0 := .iface 145 (.agg #[.int .i64 e, .int .i64 q]))
  (G := fun _ w' => Keep [c2, c3, c4] w w' ∧ Blk w' c2 28 [.slice none 0 0, .slice none 0 0] ∧ Blk w' c3 44 [.int .i64 e] ∧ Blk w' c4 3 [.int .i64 q]) (args := [pt c2, pt c3, pt c4]) Tryz.func88 rfl Tryz.ntmps88 (by simp) (by decide) (by kernel_rfl) (by kernel_rfl) (.inr ⟨_, rfl, rfl, rfl⟩) ?_
 refine W_assert_yes rfl ?_
 refine Bn rfl (Af rfl rfl (Af rfl rfl ?_))
 refine BE (cs := [.int .i64 e, .int .i64 q]) rfl rfl (by rfl) (Bj rfl) (fun w2 n2 => ?_)
 have b2 := n2.blk
 have z2 := n2.size
 refine AB (AC rfl ?_)
 repeat refine nx rfl ?_
 refine AA (AC rfl ?_)
 repeat refine nx rfl ?_
 refine AA ?_
 refine Aw (fun w3 n3 => ?_)
 have z3 := n3.size
 have b3 : Blk w3 w2.heap.size 28 [.slice none 0 0, .slice none 0 0] := n3.blk
 replace b2 := b2.keep n3.keep (by simp)
 have k3 : Ext w w3 := n2.keep.trans n3.keep
 replace d2 := d2.keep k3 (by simp)
 replace d3 := d3.keep k3 (by simp)
 replace d4 := d4.keep k3 (by simp)
 repeat refine nx rfl ?_
 refine A7 (.read 0 (.read 1 (.read 2 (.read 3 (.read 4 (.alt 5 (.alt 6 (.alt 7 .done .stop) .stop) .stop)))))) BA (by kernel_rfl) (fun wd kd ed => ⟨fun W => W.cell? ⟨w.heap.size, 0, none⟩ = some (.int .i64 e) ∧ W.cell? ⟨w.heap.size, 1, none⟩ = some (.int .i64 q) ∧ Cells W w2.heap.size 0 [.slice none 0 0, .slice none 0 0], ?_, ?_⟩)
 ·exact ⟨(b2.keep kd (by simp)).cell rfl, (b2.keep kd (by simp)).cell rfl, (b3.keep kd (by simp)).cells⟩
 have fc0 : ∀ W : World, (W.cell? ⟨w.heap.size, 0, none⟩ = some (.int .i64 e) ∧ W.cell? ⟨w.heap.size, 1, none⟩ = some (.int .i64 q) ∧ Cells W w2.heap.size 0 [.slice none 0 0, .slice none 0 0]) → W.cell? ⟨w.heap.size, 0, none⟩ = some (.int .i64 e) := fun W h => h.1
 have fc1 : ∀ W : World, (W.cell? ⟨w.heap.size, 0, none⟩ = some (.int .i64 e) ∧ W.cell? ⟨w.heap.size, 1, none⟩ = some (.int .i64 q) ∧ Cells W w2.heap.size 0 [.slice none 0 0, .slice none 0 0]) → W.cell? ⟨w.heap.size, 1, none⟩ = some (.int .i64 q) := fun W h => h.2.1
 have fc2 : ∀ W : World, (W.cell? ⟨w.heap.size, 0, none⟩ = some (.int .i64 e) ∧ W.cell? ⟨w.heap.size, 1, none⟩ = some (.int .i64 q) ∧ Cells W w2.heap.size 0 [.slice none 0 0, .slice none 0 0]) → Cells W w2.heap.size 0 [.slice none 0 0, .slice none 0 0] := fun W h => h.2.2
 replace b2 := b2.keep kd (by simp)
 replace b3 := b3.keep kd (by simp)
 replace d2 := d2.keep kd (by simp)
 replace d3 := d3.keep kd (by simp)
 replace d4 := d4.keep kd (by simp)
 have k : Keep [c2, c3, c4] w wd := (k3.trans kd).any
 ((apply D_R rfl rfl; (intro W hW; refine AZ rfl (by rfl) (fc2 W hW) ?_; exact Z3)) <;> refine D_R rfl rfl (fun W hW => AD rfl Z3) (D_R rfl rfl (fun W hW => AG rfl (fc0 W hW) Z3) (D_R rfl rfl (fun W hW => AD rfl Z3) (D_R rfl rfl (fun W hW => AG rfl (fc1 W hW) Z3) ?_))))
 refine D_E rfl ?_
 refine Aa (cs := [.slice none 0 0, .slice none 0 0]) rfl rfl rfl (Bj rfl) d2 (by rw [hL2]; simp) (fun W p => ?_)
 have bb := p.blk
 rw [Bu L2 [.slice none 0 0, .slice none 0 0] (by rw [hL2])] at bb
 replace d3 := d3.keep p.keep (by simp; omega)
 replace d4 := d4.keep p.keep (by simp; omega)
 replace b2 := b2.keep p.keep (by simp; omega)
 replace b3 := b3.keep p.keep (by simp; omega)
 replace k := k.trans p.keep (by simp)
 clear d2 p
 have d2 := bb
 refine AI ⟨_, fun _ h => h, ⟨b2.cell rfl, b2.cell rfl, b3.cells⟩, ?_⟩
 refine D_E rfl ?_
 refine Ak rfl rfl rfl d3 (by simp) (fun W2 p => ?_)
 have bb3 := p.blk
 replace d2 := d2.keep p.keep (by simp; omega)
 replace d4 := d4.keep p.keep (by simp; omega)
 replace b2 := b2.keep p.keep (by simp; omega)
 replace b3 := b3.keep p.keep (by simp; omega)
 replace k := k.trans p.keep (by simp)
 clear d3 p
 refine AI ⟨_, fun _ h => h, ⟨b2.cell rfl, b2.cell rfl, b3.cells⟩, ?_⟩
 refine D_E rfl ?_
 refine Ak rfl rfl rfl d4 (by simp) (fun W3 p => ?_)
 have bb4 := p.blk
 replace d2 := d2.keep p.keep (by simp; omega)
 replace bb3 := bb3.keep p.keep (by simp; omega)
 replace b2 := b2.keep p.keep (by simp; omega)
 replace b3 := b3.keep p.keep (by simp; omega)
 replace k := k.trans p.keep (by simp)
 refine AI ⟨_, fun _ h => h, ⟨b2.cell rfl, b2.cell rfl, b3.cells⟩, ?_⟩
 refine Ay ?_
 repeat refine nx rfl ?_
 exact Az rfl ⟨k, d2, bb3, bb4⟩
end Go.Proofs.YtfcgdbmoncnibaaGreatDoor
namespace Go.Proofs.YtfcgdbmoncnibaaGreatDoor
open Go.RowKit
set_option linter.unusedVariables false
variable {mk : Prop} [MK mk]
def errOf {α : Type} (n : Nat) : Ans α → Except (Int × Nat) α
 | .ok y => .ok y.1
 | .error [] => .error (51, n)
 | .error (x :: _) => .error (50, x.loc)
def PRes (nt : NT) (t : List UInt8) (r : Except (Int × Nat) nt.T) : Prop :=
 match lexM t with
 | .error e => r = .error e
 | .ok ts => ∃ a : Ans nt.T, Run (whole nt) ts a ∧ r = errOf t.length a
theorem PRes.det {nt : NT} {t : List UInt8} {r r' : Except (Int × Nat) nt.T} (h : PRes nt t r) (h' : PRes nt t r') : r = r' := by
 unfold PRes at h h'
 cases hm : lexM t with
 | error e => rw [hm] at h h'; rw [h, h']
 | ok ts =>
  rw [hm] at h h'
  obtain ⟨a, h1, rfl⟩ := h
  obtain ⟨b, h2, rfl⟩ := h'
  rw [h1.det h2]
def RunAns {α : Type} (R : Rp α) (val : List Value → Value) (zero : List Value) (P : Except (Int × Nat) α → Prop) (w w' : World) (v : Value) : Prop :=
 ∃ c e q, v = .tuple #[val c, .int .i64 e, .int .i64 q] ∧ Ext w w' ∧ ((∃ a, P (.ok a) ∧ e = 0 ∧ q = -1 ∧ R.fits (fresh w) w' c a) ∨ ∃ p : Nat, P (.error (e, p)) ∧ e ≠ 0 ∧ q = (p : Int) ∧ c = zero)
theorem errV_ne {α : Type} (n : Nat) (l : List Tok) : ∃ e p, errV n l = failP e p ∧ (errOf n (.error l : Ans α)) = .error (e, p) ∧ e ≠ 0 := by
 cases l with
 | nil => exact ⟨51, n, rfl, rfl, by decide⟩
 | cons x l => exact ⟨50, x.loc, rfl, rfl, by decide⟩
theorem lexF (w : World) (t : List UInt8) (hG : GV w) : Fn Tryz.prog 38 [AM t] w fun v w' => ∃ a c e q ts, v = .tuple #[.slice a ts.length c, .int .i64 e, .int .i64 q] ∧ Ext w w' ∧ Sl (fun b => w.heap.size ≤ b ∧ b < w'.heap.size) w' (.slice a ts.length c) ts.length (toksC ts) ∧
  ((lexM t = .ok ts ∧ e = 0 ∧ q = -1) ∨ ∃ p : Nat, lexM t = .error (e, p) ∧ e ≠ 0 ∧ q = (p : Int) ∧ ts = []) := by
 refine (lex_ok w t hG).mono ?_
 rintro v w' ⟨tv, e, q, rfl, k, h⟩
 unfold LexAns at h
 cases hm : lexM t with
 | ok ts =>
  rw [hm] at h
  obtain ⟨rfl, rfl, ho⟩ := h
  have hs := BF (ok := fun b => w.heap.size ≤ b ∧ b < w'.heap.size) ho fun g hg => Bl ho hg
  obtain ⟨a, c, rfl, hr⟩ := id hs
  exact ⟨a, c, 0, -1, ts, rfl, k, hs, .inl ⟨rfl, rfl, rfl⟩⟩
 | error r =>
  obtain ⟨e', p⟩ := r
  rw [hm] at h
  obtain ⟨rfl, rfl, rfl⟩ := h
  exact ⟨none, 0, e, p, [], rfl, k, ⟨_, _, rfl, by simp, by omega, fun _ => rfl, .inl rfl⟩, .inr ⟨p, rfl, lexM_err hm, rfl, rfl⟩⟩
theorem res_cellA {P : Program} {f : Fr} {w : World} {T n b t : Nat} {L : List Value} {l : List ResultVar} {k : List Value → Prop} [hT : AggT P T n] (ha : f t = .pointer (some ⟨b, 0, none⟩)) (hl : L.length = n) (hc : Cells w b 0 L) (h : Cp P l f w fun r => k (.agg L.toArray :: r)) : Cp P (.cell t T :: l) f w k :=
 ⟨_, _, ha, C9 hT hl hc, h⟩
theorem run_F (w : World) (t : List UInt8) (hG : GK w) (hI : ∀ E N, ItemR fmlR aggV E N 65 (body .formula)) : Fn Tryz.prog 64 [AM t, .func (.func 65) #[] #[]] w (fun v w' => RunAns fmlR aggV [.int .i64 0, AM [], .int .i64 0, .int .i64 0, .slice none 0 0] (PRes .formula t) w w' v) := by
 have hgs := hG.gv.size
 refine fn_of_wcD Tryz.func64 rfl Tryz.ntmps64 (Nat.le_of_ble_eq_true rfl) (by kernel_rfl) ?_
 repeat refine nx rfl ?_
 refine AA ?_
 refine Aw (fun w1 n1 => ?_)
 refine Aw (fun w2 n2 => ?_)
 refine Aw (fun w3 n3 => ?_)
 have z1 := n1.size
 have z2 := n2.size
 have z3 := n3.size
 have b1 : Blk w3 w.heap.size 24 [.int .i64 0, AM [], .int .i64 0, .int .i64 0, .slice none 0 0] := (n1.blk.keep n2.keep (by simp)).keep n3.keep (by simp)
 have b2 : Blk w3 w1.heap.size 44 [.int .i64 0] := n2.blk.keep n3.keep (by simp)
 have b3 : Blk w3 w2.heap.size 3 [.int .i64 0] := n3.blk
 have k3 : Ext w w3 := (n1.keep.trans n2.keep).trans n3.keep
 repeat refine nx rfl ?_
 refine AA (AY rfl ?_)
 refine AS (lexF w3 t (hG.gv.ext k3)) rfl ?_
 rintro v w4 ⟨ta, tc, e, q, ts, rfl, k4, hT, hm⟩
 have z4 := k4.size
 have c1 := b1.keep k4 (by simp)
 have c2 := b2.keep k4 (by simp)
 have c3 := b3.keep k4 (by simp)
 refine Bn rfl (Af rfl rfl (Af rfl rfl (Af rfl rfl (AB (Ah rfl ?_)))))
 refine Ak rfl rfl rfl c2 (by simp) (fun w5 p5 => ?_)
 refine Ak rfl rfl rfl (c3.keep p5.keep (by simp; omega)) (by simp) (fun w6 p6 => ?_)
 have z5 := p5.size
 have z6 := p6.size
 have d1 : Blk w6 w.heap.size 24 [.int .i64 0, AM [], .int .i64 0, .int .i64 0, .slice none 0 0] := (c1.keep p5.keep (by simp; omega)).keep p6.keep (by simp; omega)
 have d2 : Blk w6 w1.heap.size 44 [.int .i64 e] := p5.blk.keep p6.keep (by simp; omega)
 have d3 : Blk w6 w2.heap.size 3 [.int .i64 q] := p6.blk
 have k6 : Ext w w6 := ((k3.trans k4).keep p5.keep (by simp; omega)).keep p6.keep (by simp; omega)
 repeat refine nx rfl ?_
 rcases hm with ⟨hm, rfl, rfl⟩ | ⟨p, hm, he, rfl, rfl⟩
 ·obtain ⟨ht6, ht2, hwf⟩ := lexM_toks hm
  (refine AA (AG rfl (Blk.cell (by assumption) (by rfl)) ?_) <;> refine W_neqF rfl rfl (by omega) ?_)
  repeat first | refine nx rfl ?_ | refine nf rfl ?_
  refine AA (BC rfl rfl ?_)
  refine W_defer (v1 := []) (v2 := [pt w.heap.size, pt w1.heap.size, pt w2.heap.size]) (vs := []) rfl rfl ?_
  repeat refine nx rfl ?_
  refine AA (Ah rfl (AY rfl (Bb rfl ?_)))
  refine AS (prefixes_ok w6) rfl ?_
  rintro v w7 ⟨mp, rfl, hmp, k7, hpre⟩
  refine AS (infixes_ok w7) rfl ?_
  rintro v w8 ⟨mi, rfl, hmi, k8, hinf⟩
  have hpl := hpre.lt
  have hil := hinf.lt
  have zk7 := k7.size
  have zk8 := k8.size
  refine Ac (by rfl) (by rfl) ?_
  refine Bs (L := [.slice ta ts.length tc, .int .i64 (t.length : Int), .map (some mp), .map (some mi)]) rfl (fun w9 n9 => ?_)
  have z9 := n9.size
  have k9 : Ext w w9 := ((k6.trans k7).trans k8).trans n9.keep
  refine AB (AK rfl ?_)
  repeat refine nx rfl ?_
  have hT9 := ((((hT.keep p5.keep (fun b hb => by simp; omega)).keep p6.keep (fun b hb => by simp; omega)).ext k7).ext k8).ext n9.keep
  have f1 := (((d1.keep k7 (by simp)).keep k8 (by simp)).keep n9.keep (by simp))
  have f2 := (((d2.keep k7 (by simp)).keep k8 (by simp)).keep n9.keep (by simp))
  have f3 := (((d3.keep k7 (by simp)).keep k8 (by simp)).keep n9.keep (by simp))
  have hP : PSt w9 ⟨w3.heap.size, w8.heap.size, t.length, mp, mi⟩ ts := ⟨⟨ta, tc, n9.blk, hT9.mono fun b hb => by have := hb.1; have := hb.2; exact ⟨by show w3.heap.size ≤ b; omega, by show b < w8.heap.size; omega⟩⟩, (hpre.keep k8 (by simp)).keep n9.keep (by simp), hinf.keep n9.keep (by simp), ⟨by show mp < w8.heap.size; omega, hil⟩, hwf, ht2⟩
  have hW : PW w9 ⟨w3.heap.size, w8.heap.size, t.length, mp, mi⟩ ts := ⟨hP, hG.ext k9, by show 10 ≤ w8.heap.size; omega⟩
  have hpr : ∀ {r : Ans (NT.T .formula)}, Run (whole .formula) ts r → PRes .formula t (errOf t.length r) := fun {r} hr => by unfold PRes; rw [hm]; exact ⟨r, hr, rfl⟩
  have hpan : ∀ (f : Fr) (w10 : World) (l : List Tok), Run (whole .formula) ts (.error l) → Keep [w8.heap.size, w.heap.size] w9 w10 → (∃ L1, Blk w10 w.heap.size 24 L1 ∧ L1.length = 5) → f 4 = pt w.heap.size → f 5 = pt w1.heap.size → f 6 = pt w2.heap.size →
    C5 Tryz.prog Tryz.f64 (fun v w' => RunAns fmlR aggV [.int .i64 0, AM [], .int .i64 0, .int .i64 0, .slice none 0 0] (PRes .formula t) w w' v) (fun _ _ => False) (.panic (errV t.length l)) f [{ target := .fn (.func 104) #[pt w.heap.size, pt w1.heap.size, pt w2.heap.size], args := #[] }] w10 := by
   rintro f w10 l hr hk ⟨L1, g1, hL1⟩ e4 e5 e6
   obtain ⟨e, p, he1, he2, he0⟩ := errV_ne (α := NT.T .formula) t.length l
   rw [he1]
   refine finD_pan_def (a := []) (c := [pt w.heap.size, pt w1.heap.size, pt w2.heap.size]) (recPan_F w10 _ _ _ L1 _ _ e (p : Int) g1 hL1 (f2.keep hk (by simp; omega)) (f3.keep hk (by simp; omega)) (by omega) (by omega) (by omega)) fun w11 h11 => ?_
   obtain ⟨k11, g1', g2', g3'⟩ := h11
   refine res_cellA e4 rfl g1'.cells (BZ e5 (g2'.cell rfl) (BZ e6 (g3'.cell rfl) ?_))
   have hp := hpr hr
   rw [he2] at hp
   exact ⟨[.int .i64 0, AM [], .int .i64 0, .int .i64 0, .slice none 0 0], e, p, rfl, (k9.keep hk (by simp; omega)).keep k11 (by simp; omega), .inr ⟨p, hp, he0, rfl, rfl⟩⟩
  refine AA (Cl rfl (AK rfl ?_))
  refine CD (v1 := []) (v2 := []) (vs := [pt w8.heap.size]) rfl (hI ⟨w3.heap.size, w8.heap.size, t.length, mp, mi⟩ ts.length w9 ts hW (Nat.le_refl _)) rfl ?_ ?_
  rotate_left
  ·rintro ch w10 ⟨k10, l, r10, rfl⟩
   repeat refine nx rfl ?_
   exact hpan _ w10 l (Run.callE r10) (k10.mono (by simp)) ⟨_, f1.keep k10 (by simp; omega), rfl⟩ rfl rfl rfl
  rintro v w10 ⟨k10, a, ts', r10, q10, c, rfl, fit⟩
  have hcl : c.length = 5 := Rp.len fmlR fit
  have hco := Rp.one fmlR fit
  have g1 := f1.keep k10 (by simp; omega)
  have g2 := f2.keep k10 (by simp; omega)
  have g3 := f3.keep k10 (by simp; omega)
  have z10 := k10.size
  refine Aa (cs := c) rfl rfl hcl hco g1 (by simp) (fun w11 p11 => ?_)
  have g1' : Blk w11 w.heap.size 24 c := by
   have := p11.blk
   rw [Bu [.int .i64 0, AM [], .int .i64 0, .int .i64 0, .slice none 0 0] c (by rw [hcl]; rfl)] at this
   exact this
  have g2' := g2.keep p11.keep (by simp; omega)
  have g3' := g3.keep p11.keep (by simp; omega)
  have fit' := Rp.keep fmlR fit p11.keep (fun b hb => by simp [fresh] at hb ⊢; omega)
  have k911 : Keep [w8.heap.size, w.heap.size] w9 w11 := (k10.mono (by simp)).trans (p11.keep.mono (Y := [w8.heap.size, w.heap.size]) (by simp)) (by simp)
  have z11 := p11.size
  have hE : w.heap.size < w8.heap.size := by omega
  obtain ⟨⟨ta', tc', hb10, hs10⟩, hq3, hq4, hq5, hq6, hq7⟩ := id q10
  have hb11 := hb10.keep p11.keep (by simp; omega)
  repeat refine nx rfl ?_
  cases ts' with
  | cons x l =>
   have hl : (x :: l).length = l.length + 1 := rfl
   (refine AA (AK rfl (AF rfl (AD rfl (AG rfl (Blk.cell (by assumption) (by rfl)) ?_)))) <;> refine As rfl (W_gtrT rfl rfl (by omega) ?_))
   repeat refine nx rfl ?_
   refine AA (AK rfl ?_)
   have q11 : PSt w11 ⟨w3.heap.size, w8.heap.size, t.length, mp, mi⟩ (x :: l) := ⟨⟨ta', tc', hb11, hs10.keep p11.keep (fun b hb => by have : w3.heap.size ≤ b := hb.1; simp; omega)⟩, hq3.keep p11.keep (by simp; omega), hq4.keep p11.keep (by simp; omega), hq5, hq6, hq7⟩
   refine AX (wrong_ok ⟨w3.heap.size, w8.heap.size, t.length, mp, mi⟩ w11 (x :: l) q11) rfl (R := fun _ _ => False) ?_ ?_
   ·rintro v w2 hh; exact hh.elim
   ·rintro ch w2 ⟨rfl, rfl⟩
    repeat refine nx rfl ?_
    exact hpan _ w2 (x :: l) (Run.call r10 (Run.look (Run.fail _))) k911 ⟨_, g1', hcl⟩ rfl rfl rfl
  | nil =>
   have hl : ([] : List Tok).length = 0 := rfl
   (refine AA (AK rfl (AF rfl (AD rfl (AG rfl (Blk.cell (by assumption) (by rfl)) ?_)))) <;> refine As rfl (W_gtrF rfl rfl (by omega) ?_))
   repeat first | refine nx rfl ?_ | refine nf rfl ?_
   refine AA (AW rfl g1' hcl ?_)
   refine Aa (cs := c) rfl rfl hcl hco g1' (by omega) (fun w12 p12 => ?_)
   have i1 : Blk w12 w.heap.size 24 c := by
    have := p12.blk
    rw [Bu c c rfl] at this
    exact this
   refine Ak rfl rfl rfl (g2'.keep p12.keep (by simp; omega)) (by simp) (fun w13 p13 => ?_)
   refine Ak rfl rfl rfl ((g3'.keep p12.keep (by simp; omega)).keep p13.keep (by simp; omega)) (by simp) (fun w14 p14 => ?_)
   have z12 := p12.size
   have z13 := p13.size
   have j1 := (i1.keep p13.keep (by simp; omega)).keep p14.keep (by simp; omega)
   have j2 : Blk w14 w1.heap.size 44 [.int .i64 0] := p13.blk.keep p14.keep (by simp; omega)
   have j3 : Blk w14 w2.heap.size 3 [.int .i64 (-1)] := p14.blk
   have k14 : Ext w w14 := (((k9.keep k911 (by simp; omega)).keep p12.keep (by simp)).keep p13.keep (by simp; omega)).keep p14.keep (by simp; omega)
   have fit14 := Rp.keep fmlR (Rp.keep fmlR (Rp.keep fmlR fit' p12.keep (fun b hb => by simp [fresh] at hb ⊢; omega)) p13.keep (fun b hb => by simp [fresh] at hb ⊢; omega)) p14.keep (fun b hb => by simp [fresh] at hb ⊢; omega)
   repeat refine nx rfl ?_
   refine finD_ret_def (a := []) (c := [pt w.heap.size, pt w1.heap.size, pt w2.heap.size]) (recRet_F _ _ _ _) fun w15 k15 => ?_
   refine res_cellA rfl hcl (j1.keep k15 (by simp)).cells (BZ rfl ((j2.keep k15 (by simp)).cell rfl) (BZ rfl ((j3.keep k15 (by simp)).cell rfl) ?_))
   have hp := hpr (Run.call r10 (Run.look (Run.ret _ _)))
   exact ⟨c, 0, -1, rfl, k14.trans k15, .inl ⟨a, hp, rfl, rfl, Rp.mono fmlR (Rp.ext fmlR fit14 k15) fun b hb => by simp only [fresh] at hb ⊢; omega⟩⟩
 ·(refine AA (AG rfl (Blk.cell (by assumption) (by rfl)) ?_) <;> refine W_neqT rfl rfl (by omega) ?_)
  repeat refine nx rfl ?_
  refine A7 (.read 0 (.read 1 (.read 2 (.alt 3 (.alt 4 (.alt 5 .done .stop) .stop) .stop)))) BA (by kernel_rfl) (fun wd kd ed => ⟨fun W => Cells W w.heap.size 0 [.int .i64 0, AM [], .int .i64 0, .int .i64 0, .slice none 0 0] ∧ W.cell? ⟨w1.heap.size, 0, none⟩ = some (.int .i64 e) ∧ W.cell? ⟨w2.heap.size, 0, none⟩ = some (.int .i64 (p : Int)), ?_, ?_⟩)
  ·exact ⟨(d1.keep kd (by simp)).cells, (d2.keep kd (by simp)).cell rfl, (d3.keep kd (by simp)).cell rfl⟩
  have fc0 : ∀ W : World, (Cells W w.heap.size 0 [.int .i64 0, AM [], .int .i64 0, .int .i64 0, .slice none 0 0] ∧ W.cell? ⟨w1.heap.size, 0, none⟩ = some (.int .i64 e) ∧ W.cell? ⟨w2.heap.size, 0, none⟩ = some (.int .i64 (p : Int))) → Cells W w.heap.size 0 [.int .i64 0, AM [], .int .i64 0, .int .i64 0, .slice none 0 0] := fun W h => h.1
  have fc1 : ∀ W : World, (Cells W w.heap.size 0 [.int .i64 0, AM [], .int .i64 0, .int .i64 0, .slice none 0 0] ∧ W.cell? ⟨w1.heap.size, 0, none⟩ = some (.int .i64 e) ∧ W.cell? ⟨w2.heap.size, 0, none⟩ = some (.int .i64 (p : Int))) → W.cell? ⟨w1.heap.size, 0, none⟩ = some (.int .i64 e) := fun W h => h.2.1
  have fc2 : ∀ W : World, (Cells W w.heap.size 0 [.int .i64 0, AM [], .int .i64 0, .int .i64 0, .slice none 0 0] ∧ W.cell? ⟨w1.heap.size, 0, none⟩ = some (.int .i64 e) ∧ W.cell? ⟨w2.heap.size, 0, none⟩ = some (.int .i64 (p : Int))) → W.cell? ⟨w2.heap.size, 0, none⟩ = some (.int .i64 (p : Int)) := fun W h => h.2.2
  replace d1 := d1.keep kd (by simp)
  replace d2 := d2.keep kd (by simp)
  replace d3 := d3.keep kd (by simp)
  ((apply D_R rfl rfl; (intro W hW; refine AZ rfl (by rfl) (fc0 W hW) ?_; exact Z3)) <;> refine D_R rfl rfl (fun W hW => AG rfl (fc1 W hW) Z3) (D_R rfl rfl (fun W hW => AG rfl (fc2 W hW) Z3) ?_))
  refine D_E rfl ?_
  refine Aa (cs := [.int .i64 0, AM [], .int .i64 0, .int .i64 0, .slice none 0 0]) rfl rfl rfl (Bj rfl) d1 (by simp) (fun wa pa => ?_)
  have a1 : Blk wa w.heap.size 24 [.int .i64 0, AM [], .int .i64 0, .int .i64 0, .slice none 0 0] := pa.blk
  have a2 := d2.keep pa.keep (by simp; omega)
  have a3 := d3.keep pa.keep (by simp; omega)
  refine AI ⟨_, fun _ h => h, ⟨a1.cells, a2.cell rfl, a3.cell rfl⟩, ?_⟩
  refine D_E rfl ?_
  refine Ak rfl rfl rfl a2 (by simp) (fun wb pb => ?_)
  have b1' := a1.keep pb.keep (by simp; omega)
  have b2' : Blk wb w1.heap.size 44 [.int .i64 e] := pb.blk
  have b3' := a3.keep pb.keep (by simp; omega)
  refine AI ⟨_, fun _ h => h, ⟨b1'.cells, b2'.cell rfl, b3'.cell rfl⟩, ?_⟩
  refine D_E rfl ?_
  refine Ak rfl rfl rfl b3' (by simp) (fun wc pc => ?_)
  have c1' := b1'.keep pc.keep (by simp; omega)
  have c2' := b2'.keep pc.keep (by simp; omega)
  have c3' : Blk wc w2.heap.size 3 [.int .i64 (p : Int)] := pc.blk
  refine AI ⟨_, fun _ h => h, ⟨c1'.cells, c2'.cell rfl, c3'.cell rfl⟩, ?_⟩
  refine Ay ?_
  repeat refine nx rfl ?_
  refine finD_ret_nil (res_cellA rfl rfl c1'.cells (BZ rfl (c2'.cell rfl) (BZ rfl (c3'.cell rfl) ?_)))
  refine ⟨[.int .i64 0, AM [], .int .i64 0, .int .i64 0, .slice none 0 0], e, p, rfl, (((k6.trans kd).keep pa.keep (by simp)).keep pb.keep (by simp; omega)).keep pc.keep (by simp; omega), .inr ⟨p, ?_, he, rfl, rfl⟩⟩
  unfold PRes
  rw [hm]
theorem run_S (w : World) (t : List UInt8) (hG : GK w) (hI : ∀ E N, ItemR spcR aggV E N 57 (body .spec)) : Fn Tryz.prog 56 [AM t, .func (.func 57) #[] #[]] w (fun v w' => RunAns spcR aggV [.slice none 0 0, .slice none 0 0] (PRes .spec t) w w' v) := by
 have hgs := hG.gv.size
 refine fn_of_wcD Tryz.func56 rfl Tryz.ntmps56 (Nat.le_of_ble_eq_true rfl) (by kernel_rfl) ?_
 repeat refine nx rfl ?_
 refine AA ?_
 refine Aw (fun w1 n1 => ?_)
 refine Aw (fun w2 n2 => ?_)
 refine Aw (fun w3 n3 => ?_)
 have z1 := n1.size
 have z2 := n2.size
 have z3 := n3.size
 have b1 : Blk w3 w.heap.size 28 [.slice none 0 0, .slice none 0 0] := (n1.blk.keep n2.keep (by simp)).keep n3.keep (by simp)
 have b2 : Blk w3 w1.heap.size 44 [.int .i64 0] := n2.blk.keep n3.keep (by simp)
 have b3 : Blk w3 w2.heap.size 3 [.int .i64 0] := n3.blk
 have k3 : Ext w w3 := (n1.keep.trans n2.keep).trans n3.keep
 repeat refine nx rfl ?_
 refine AA (AY rfl ?_)
 refine AS (lexF w3 t (hG.gv.ext k3)) rfl ?_
 rintro v w4 ⟨ta, tc, e, q, ts, rfl, k4, hT, hm⟩
 have z4 := k4.size
 have c1 := b1.keep k4 (by simp)
 have c2 := b2.keep k4 (by simp)
 have c3 := b3.keep k4 (by simp)
 refine Bn rfl (Af rfl rfl (Af rfl rfl (Af rfl rfl (AB (Ah rfl ?_)))))
 refine Ak rfl rfl rfl c2 (by simp) (fun w5 p5 => ?_)
 refine Ak rfl rfl rfl (c3.keep p5.keep (by simp; omega)) (by simp) (fun w6 p6 => ?_)
 have z5 := p5.size
 have z6 := p6.size
 have d1 : Blk w6 w.heap.size 28 [.slice none 0 0, .slice none 0 0] := (c1.keep p5.keep (by simp; omega)).keep p6.keep (by simp; omega)
 have d2 : Blk w6 w1.heap.size 44 [.int .i64 e] := p5.blk.keep p6.keep (by simp; omega)
 have d3 : Blk w6 w2.heap.size 3 [.int .i64 q] := p6.blk
 have k6 : Ext w w6 := ((k3.trans k4).keep p5.keep (by simp; omega)).keep p6.keep (by simp; omega)
 repeat refine nx rfl ?_
 rcases hm with ⟨hm, rfl, rfl⟩ | ⟨p, hm, he, rfl, rfl⟩
 ·obtain ⟨ht6, ht2, hwf⟩ := lexM_toks hm
  (refine AA (AG rfl (Blk.cell (by assumption) (by rfl)) ?_) <;> refine W_neqF rfl rfl (by omega) ?_)
  repeat first | refine nx rfl ?_ | refine nf rfl ?_
  refine AA (BC rfl rfl ?_)
  refine W_defer (v1 := []) (v2 := [pt w.heap.size, pt w1.heap.size, pt w2.heap.size]) (vs := []) rfl rfl ?_
  repeat refine nx rfl ?_
  refine AA (Ah rfl (AY rfl (Bb rfl ?_)))
  refine AS (prefixes_ok w6) rfl ?_
  rintro v w7 ⟨mp, rfl, hmp, k7, hpre⟩
  refine AS (infixes_ok w7) rfl ?_
  rintro v w8 ⟨mi, rfl, hmi, k8, hinf⟩
  have hpl := hpre.lt
  have hil := hinf.lt
  have zk7 := k7.size
  have zk8 := k8.size
  refine Ac (by rfl) (by rfl) ?_
  refine Bs (L := [.slice ta ts.length tc, .int .i64 (t.length : Int), .map (some mp), .map (some mi)]) rfl (fun w9 n9 => ?_)
  have z9 := n9.size
  have k9 : Ext w w9 := ((k6.trans k7).trans k8).trans n9.keep
  refine AB (AK rfl ?_)
  repeat refine nx rfl ?_
  have hT9 := ((((hT.keep p5.keep (fun b hb => by simp; omega)).keep p6.keep (fun b hb => by simp; omega)).ext k7).ext k8).ext n9.keep
  have f1 := (((d1.keep k7 (by simp)).keep k8 (by simp)).keep n9.keep (by simp))
  have f2 := (((d2.keep k7 (by simp)).keep k8 (by simp)).keep n9.keep (by simp))
  have f3 := (((d3.keep k7 (by simp)).keep k8 (by simp)).keep n9.keep (by simp))
  have hP : PSt w9 ⟨w3.heap.size, w8.heap.size, t.length, mp, mi⟩ ts := ⟨⟨ta, tc, n9.blk, hT9.mono fun b hb => by have := hb.1; have := hb.2; exact ⟨by show w3.heap.size ≤ b; omega, by show b < w8.heap.size; omega⟩⟩, (hpre.keep k8 (by simp)).keep n9.keep (by simp), hinf.keep n9.keep (by simp), ⟨by show mp < w8.heap.size; omega, hil⟩, hwf, ht2⟩
  have hW : PW w9 ⟨w3.heap.size, w8.heap.size, t.length, mp, mi⟩ ts := ⟨hP, hG.ext k9, by show 10 ≤ w8.heap.size; omega⟩
  have hpr : ∀ {r : Ans (NT.T .spec)}, Run (whole .spec) ts r → PRes .spec t (errOf t.length r) := fun {r} hr => by unfold PRes; rw [hm]; exact ⟨r, hr, rfl⟩
  have hpan : ∀ (f : Fr) (w10 : World) (l : List Tok), Run (whole .spec) ts (.error l) → Keep [w8.heap.size, w.heap.size] w9 w10 → (∃ L1, Blk w10 w.heap.size 28 L1 ∧ L1.length = 2) → f 4 = pt w.heap.size → f 5 = pt w1.heap.size → f 6 = pt w2.heap.size →
    C5 Tryz.prog Tryz.f56 (fun v w' => RunAns spcR aggV [.slice none 0 0, .slice none 0 0] (PRes .spec t) w w' v) (fun _ _ => False) (.panic (errV t.length l)) f [{ target := .fn (.func 88) #[pt w.heap.size, pt w1.heap.size, pt w2.heap.size], args := #[] }] w10 := by
   rintro f w10 l hr hk ⟨L1, g1, hL1⟩ e4 e5 e6
   obtain ⟨e, p, he1, he2, he0⟩ := errV_ne (α := NT.T .spec) t.length l
   rw [he1]
   refine finD_pan_def (a := []) (c := [pt w.heap.size, pt w1.heap.size, pt w2.heap.size]) (recPan_S w10 _ _ _ L1 _ _ e (p : Int) g1 hL1 (f2.keep hk (by simp; omega)) (f3.keep hk (by simp; omega)) (by omega) (by omega) (by omega)) fun w11 h11 => ?_
   obtain ⟨k11, g1', g2', g3'⟩ := h11
   refine res_cellA e4 rfl g1'.cells (BZ e5 (g2'.cell rfl) (BZ e6 (g3'.cell rfl) ?_))
   have hp := hpr hr
   rw [he2] at hp
   exact ⟨[.slice none 0 0, .slice none 0 0], e, p, rfl, (k9.keep hk (by simp; omega)).keep k11 (by simp; omega), .inr ⟨p, hp, he0, rfl, rfl⟩⟩
  refine AA (Cl rfl (AK rfl ?_))
  refine CD (v1 := []) (v2 := []) (vs := [pt w8.heap.size]) rfl (hI ⟨w3.heap.size, w8.heap.size, t.length, mp, mi⟩ ts.length w9 ts hW (Nat.le_refl _)) rfl ?_ ?_
  rotate_left
  ·rintro ch w10 ⟨k10, l, r10, rfl⟩
   repeat refine nx rfl ?_
   exact hpan _ w10 l (Run.callE r10) (k10.mono (by simp)) ⟨_, f1.keep k10 (by simp; omega), rfl⟩ rfl rfl rfl
  rintro v w10 ⟨k10, a, ts', r10, q10, c, rfl, fit⟩
  have hcl : c.length = 2 := Rp.len spcR fit
  have hco := Rp.one spcR fit
  have g1 := f1.keep k10 (by simp; omega)
  have g2 := f2.keep k10 (by simp; omega)
  have g3 := f3.keep k10 (by simp; omega)
  have z10 := k10.size
  refine Aa (cs := c) rfl rfl hcl hco g1 (by simp) (fun w11 p11 => ?_)
  have g1' : Blk w11 w.heap.size 28 c := by
   have := p11.blk
   rw [Bu [.slice none 0 0, .slice none 0 0] c (by rw [hcl]; rfl)] at this
   exact this
  have g2' := g2.keep p11.keep (by simp; omega)
  have g3' := g3.keep p11.keep (by simp; omega)
  have fit' := Rp.keep spcR fit p11.keep (fun b hb => by simp [fresh] at hb ⊢; omega)
  have k911 : Keep [w8.heap.size, w.heap.size] w9 w11 := (k10.mono (by simp)).trans (p11.keep.mono (Y := [w8.heap.size, w.heap.size]) (by simp)) (by simp)
  have z11 := p11.size
  have hE : w.heap.size < w8.heap.size := by omega
  obtain ⟨⟨ta', tc', hb10, hs10⟩, hq3, hq4, hq5, hq6, hq7⟩ := id q10
  have hb11 := hb10.keep p11.keep (by simp; omega)
  repeat refine nx rfl ?_
  cases ts' with
  | cons x l =>
   have hl : (x :: l).length = l.length + 1 := rfl
   (refine AA (AK rfl (AF rfl (AD rfl (AG rfl (Blk.cell (by assumption) (by rfl)) ?_)))) <;> refine As rfl (W_gtrT rfl rfl (by omega) ?_))
   repeat refine nx rfl ?_
   refine AA (AK rfl ?_)
   have q11 : PSt w11 ⟨w3.heap.size, w8.heap.size, t.length, mp, mi⟩ (x :: l) := ⟨⟨ta', tc', hb11, hs10.keep p11.keep (fun b hb => by have : w3.heap.size ≤ b := hb.1; simp; omega)⟩, hq3.keep p11.keep (by simp; omega), hq4.keep p11.keep (by simp; omega), hq5, hq6, hq7⟩
   refine AX (wrong_ok ⟨w3.heap.size, w8.heap.size, t.length, mp, mi⟩ w11 (x :: l) q11) rfl (R := fun _ _ => False) ?_ ?_
   ·rintro v w2 hh; exact hh.elim
   ·rintro ch w2 ⟨rfl, rfl⟩
    repeat refine nx rfl ?_
    exact hpan _ w2 (x :: l) (Run.call r10 (Run.look (Run.fail _))) k911 ⟨_, g1', hcl⟩ rfl rfl rfl
  | nil =>
   have hl : ([] : List Tok).length = 0 := rfl
   (refine AA (AK rfl (AF rfl (AD rfl (AG rfl (Blk.cell (by assumption) (by rfl)) ?_)))) <;> refine As rfl (W_gtrF rfl rfl (by omega) ?_))
   repeat first | refine nx rfl ?_ | refine nf rfl ?_
   refine AA (AW rfl g1' hcl ?_)
   refine Aa (cs := c) rfl rfl hcl hco g1' (by omega) (fun w12 p12 => ?_)
   have i1 : Blk w12 w.heap.size 28 c := by
    have := p12.blk
    rw [Bu c c rfl] at this
    exact this
   refine Ak rfl rfl rfl (g2'.keep p12.keep (by simp; omega)) (by simp) (fun w13 p13 => ?_)
   refine Ak rfl rfl rfl ((g3'.keep p12.keep (by simp; omega)).keep p13.keep (by simp; omega)) (by simp) (fun w14 p14 => ?_)
   have z12 := p12.size
   have z13 := p13.size
   have j1 := (i1.keep p13.keep (by simp; omega)).keep p14.keep (by simp; omega)
   have j2 : Blk w14 w1.heap.size 44 [.int .i64 0] := p13.blk.keep p14.keep (by simp; omega)
   have j3 : Blk w14 w2.heap.size 3 [.int .i64 (-1)] := p14.blk
   have k14 : Ext w w14 := (((k9.keep k911 (by simp; omega)).keep p12.keep (by simp)).keep p13.keep (by simp; omega)).keep p14.keep (by simp; omega)
   have fit14 := Rp.keep spcR (Rp.keep spcR (Rp.keep spcR fit' p12.keep (fun b hb => by simp [fresh] at hb ⊢; omega)) p13.keep (fun b hb => by simp [fresh] at hb ⊢; omega)) p14.keep (fun b hb => by simp [fresh] at hb ⊢; omega)
   repeat refine nx rfl ?_
   refine finD_ret_def (a := []) (c := [pt w.heap.size, pt w1.heap.size, pt w2.heap.size]) (recRet_S _ _ _ _) fun w15 k15 => ?_
   refine res_cellA rfl hcl (j1.keep k15 (by simp)).cells (BZ rfl ((j2.keep k15 (by simp)).cell rfl) (BZ rfl ((j3.keep k15 (by simp)).cell rfl) ?_))
   have hp := hpr (Run.call r10 (Run.look (Run.ret _ _)))
   exact ⟨c, 0, -1, rfl, k14.trans k15, .inl ⟨a, hp, rfl, rfl, Rp.mono spcR (Rp.ext spcR fit14 k15) fun b hb => by simp only [fresh] at hb ⊢; omega⟩⟩
 ·(refine AA (AG rfl (Blk.cell (by assumption) (by rfl)) ?_) <;> refine W_neqT rfl rfl (by omega) ?_)
  repeat refine nx rfl ?_
  refine A7 (.read 0 (.read 1 (.read 2 (.alt 3 (.alt 4 (.alt 5 .done .stop) .stop) .stop)))) BA (by kernel_rfl) (fun wd kd ed => ⟨fun W => Cells W w.heap.size 0 [.slice none 0 0, .slice none 0 0] ∧ W.cell? ⟨w1.heap.size, 0, none⟩ = some (.int .i64 e) ∧ W.cell? ⟨w2.heap.size, 0, none⟩ = some (.int .i64 (p : Int)), ?_, ?_⟩)
  ·exact ⟨(d1.keep kd (by simp)).cells, (d2.keep kd (by simp)).cell rfl, (d3.keep kd (by simp)).cell rfl⟩
  have fc0 : ∀ W : World, (Cells W w.heap.size 0 [.slice none 0 0, .slice none 0 0] ∧ W.cell? ⟨w1.heap.size, 0, none⟩ = some (.int .i64 e) ∧ W.cell? ⟨w2.heap.size, 0, none⟩ = some (.int .i64 (p : Int))) → Cells W w.heap.size 0 [.slice none 0 0, .slice none 0 0] := fun W h => h.1
  have fc1 : ∀ W : World, (Cells W w.heap.size 0 [.slice none 0 0, .slice none 0 0] ∧ W.cell? ⟨w1.heap.size, 0, none⟩ = some (.int .i64 e) ∧ W.cell? ⟨w2.heap.size, 0, none⟩ = some (.int .i64 (p : Int))) → W.cell? ⟨w1.heap.size, 0, none⟩ = some (.int .i64 e) := fun W h => h.2.1
  have fc2 : ∀ W : World, (Cells W w.heap.size 0 [.slice none 0 0, .slice none 0 0] ∧ W.cell? ⟨w1.heap.size, 0, none⟩ = some (.int .i64 e) ∧ W.cell? ⟨w2.heap.size, 0, none⟩ = some (.int .i64 (p : Int))) → W.cell? ⟨w2.heap.size, 0, none⟩ = some (.int .i64 (p : Int)) := fun W h => h.2.2
  replace d1 := d1.keep kd (by simp)
  replace d2 := d2.keep kd (by simp)
  replace d3 := d3.keep kd (by simp)
  ((apply D_R rfl rfl; (intro W hW; refine AZ rfl (by rfl) (fc0 W hW) ?_; exact Z3)) <;> refine D_R rfl rfl (fun W hW => AG rfl (fc1 W hW) Z3) (D_R rfl rfl (fun W hW => AG rfl (fc2 W hW) Z3) ?_))
  refine D_E rfl ?_
  refine Aa (cs := [.slice none 0 0, .slice none 0 0]) rfl rfl rfl (Bj rfl) d1 (by simp) (fun wa pa => ?_)
  have a1 : Blk wa w.heap.size 28 [.slice none 0 0, .slice none 0 0] := pa.blk
  have a2 := d2.keep pa.keep (by simp; omega)
  have a3 := d3.keep pa.keep (by simp; omega)
  refine AI ⟨_, fun _ h => h, ⟨a1.cells, a2.cell rfl, a3.cell rfl⟩, ?_⟩
  refine D_E rfl ?_
  refine Ak rfl rfl rfl a2 (by simp) (fun wb pb => ?_)
  have b1' := a1.keep pb.keep (by simp; omega)
  have b2' : Blk wb w1.heap.size 44 [.int .i64 e] := pb.blk
  have b3' := a3.keep pb.keep (by simp; omega)
  refine AI ⟨_, fun _ h => h, ⟨b1'.cells, b2'.cell rfl, b3'.cell rfl⟩, ?_⟩
  refine D_E rfl ?_
  refine Ak rfl rfl rfl b3' (by simp) (fun wc pc => ?_)
  have c1' := b1'.keep pc.keep (by simp; omega)
  have c2' := b2'.keep pc.keep (by simp; omega)
  have c3' : Blk wc w2.heap.size 3 [.int .i64 (p : Int)] := pc.blk
  refine AI ⟨_, fun _ h => h, ⟨c1'.cells, c2'.cell rfl, c3'.cell rfl⟩, ?_⟩
  refine Ay ?_
  repeat refine nx rfl ?_
  refine finD_ret_nil (res_cellA rfl rfl c1'.cells (BZ rfl (c2'.cell rfl) (BZ rfl (c3'.cell rfl) ?_)))
  refine ⟨[.slice none 0 0, .slice none 0 0], e, p, rfl, (((k6.trans kd).keep pa.keep (by simp)).keep pb.keep (by simp; omega)).keep pc.keep (by simp; omega), .inr ⟨p, ?_, he, rfl, rfl⟩⟩
  unfold PRes
  rw [hm]
theorem item_fml (E : Env) (N : Nat) : ItemR fmlR aggV E N 65 (body .formula) := by
 intro w ts h hN
 refine FnP.mono ((formulas_ok E N).2.2.2 w ts h hN) ?_ fun _ _ h => h
 rintro v w' ⟨k, a, ts', r, q, f⟩
 obtain ⟨c, rfl, hc, _⟩ := f.cells
 exact ⟨k, a, ts', r, q, c, rfl, hc, f⟩
theorem parse_F (w : World) (t : List UInt8) (hG : GK w) : Fn Tryz.prog 30 [AM t] w (fun v w' => RunAns fmlR aggV [.int .i64 0, AM [], .int .i64 0, .int .i64 0, .slice none 0 0] (PRes .formula t) w w' v) := by
 refine Ad Tryz.func30 rfl Tryz.ntmps30 (Nat.le_of_ble_eq_true rfl) (by kernel_rfl) ?_
 repeat refine nx rfl ?_
 refine AA ?_
 refine Aw (fun w1 n1 => ?_)
 have b1 : Blk w1 w.heap.size 24 [.int .i64 0, AM [], .int .i64 0, .int .i64 0, .slice none 0 0] := n1.blk
 have z1 := n1.size
 refine AB (AH rfl (AB (AH rfl ?_)))
 repeat refine nx rfl ?_
 refine AA (AY rfl ?_)
 refine AS (run_F w1 t (hG.ext n1.keep) item_fml) rfl ?_
 rintro v w2 ⟨c, e, q, rfl, k2, hr⟩
 have hc : c.length = 5 ∧ oneC c := by
  rcases hr with ⟨a, _, _, _, fit⟩ | ⟨p, _, _, _, rfl⟩
  ·exact ⟨Rp.len fmlR fit, Rp.one fmlR fit⟩
  ·exact ⟨rfl, Bj rfl⟩
 have b2 := b1.keep k2 (by simp)
 refine Af rfl rfl (Af rfl rfl (Af rfl rfl ?_))
 refine Aa (cs := c) rfl rfl hc.1 hc.2 b2 (by simp) (fun w3 p3 => ?_)
 have b3 : Blk w3 w.heap.size 24 c := by
  have := p3.blk
  rw [Bu [.int .i64 0, AM [], .int .i64 0, .int .i64 0, .slice none 0 0] c (by rw [hc.1]; rfl)] at this
  exact this
 refine AB (AH rfl (AB (AH rfl ?_)))
 repeat refine nx rfl ?_
 refine fin_retA2 rfl rfl hc.1 b3.cells ⟨c, e, q, rfl, (n1.keep.trans k2).keep p3.keep (by simp), ?_⟩
 rcases hr with ⟨a, h1, h2, h3, fit⟩ | h
 ·exact .inl ⟨a, h1, h2, h3, Rp.mono fmlR (Rp.keep fmlR fit p3.keep (fun b hb => by simp [fresh] at hb ⊢; omega)) (fun b hb => by simp only [fresh] at hb ⊢; omega)⟩
 ·exact .inr h
theorem parse_S (w : World) (t : List UInt8) (hG : GK w) : Fn Tryz.prog 23 [AM t] w (fun v w' => RunAns spcR aggV [.slice none 0 0, .slice none 0 0] (PRes .spec t) w w' v) := by
 refine Ad Tryz.func23 rfl Tryz.ntmps23 (Nat.le_of_ble_eq_true rfl) (by kernel_rfl) ?_
 repeat refine nx rfl ?_
 refine AA ?_
 refine Aw (fun w1 n1 => ?_)
 have b1 : Blk w1 w.heap.size 28 [.slice none 0 0, .slice none 0 0] := n1.blk
 have z1 := n1.size
 refine AB (AH rfl (AB (AH rfl ?_)))
 repeat refine nx rfl ?_
 refine AA (AY rfl ?_)
 refine AS (run_S w1 t (hG.ext n1.keep) spec_ok) rfl ?_
 rintro v w2 ⟨c, e, q, rfl, k2, hr⟩
 have hc : c.length = 2 ∧ oneC c := by
  rcases hr with ⟨a, _, _, _, fit⟩ | ⟨p, _, _, _, rfl⟩
  ·exact ⟨Rp.len spcR fit, Rp.one spcR fit⟩
  ·exact ⟨rfl, Bj rfl⟩
 have b2 := b1.keep k2 (by simp)
 refine Af rfl rfl (Af rfl rfl (Af rfl rfl ?_))
 refine Aa (cs := c) rfl rfl hc.1 hc.2 b2 (by simp) (fun w3 p3 => ?_)
 have b3 : Blk w3 w.heap.size 28 c := by
  have := p3.blk
  rw [Bu [.slice none 0 0, .slice none 0 0] c (by rw [hc.1]; rfl)] at this
  exact this
 refine AB (AH rfl (AB (AH rfl ?_)))
 repeat refine nx rfl ?_
 refine fin_retA2 rfl rfl hc.1 b3.cells ⟨c, e, q, rfl, (n1.keep.trans k2).keep p3.keep (by simp), ?_⟩
 rcases hr with ⟨a, h1, h2, h3, fit⟩ | h
 ·exact .inl ⟨a, h1, h2, h3, Rp.mono spcR (Rp.keep spcR fit p3.keep (fun b hb => by simp [fresh] at hb ⊢; omega)) (fun b hb => by simp only [fresh] at hb ⊢; omega)⟩
 ·exact .inr h
end Go.Proofs.YtfcgdbmoncnibaaGreatDoor
namespace Go.Proofs.YtfcgdbmoncnibaaGreatDoor
open Go.RowKit
set_option linter.unusedVariables false
variable {mk : Prop} [MK mk]
abbrev Out (α : Type) := Except (Int × Nat) α
def Out.errno {α : Type} : Out α → Int
 | .ok _ => 0
 | .error e => e.1
def Out.loc {α : Type} : Out α → Int
 | .ok _ => -1
 | .error e => (e.2 : Int)
def Out.val {α : Type} (z : α) : Out α → α
 | .ok a => a
 | .error _ => z
def zeroS : Spc := ⟨[], []⟩
theorem errOf_ne {α : Type} {n : Nat} {a : Ans α} {e : Int × Nat} (h : errOf n a = .error e) : e.1 ≠ 0 := by
 cases a with
 | ok y => cases h
 | error l =>
  cases l with
  | nil => cases h; show (51 : Int) ≠ 0; decide
  | cons x l => cases h; show (50 : Int) ≠ 0; decide
theorem PRes.ne {nt : NT} {t : List UInt8} {e : Int × Nat} (h : PRes nt t (.error e)) : e.1 ≠ 0 := by
 unfold PRes at h
 cases hm : lexM t with
 | error e' => rw [hm] at h; cases h; exact lexM_err hm
 | ok ts => rw [hm] at h; obtain ⟨a, _, h2⟩ := h; exact errOf_ne h2.symm
theorem zeroS_fits (ok : Nat → Prop) (w : World) : spcR.fits ok w [.slice none 0 0, .slice none 0 0] zeroS :=
 ⟨_, _, rfl, ⟨none, 0, [], rfl, ⟨none, 0, rfl, by simp [zeroS], by omega, fun _ => rfl, .inl rfl⟩, RsAt.nil⟩, ⟨none, 0, [], rfl, ⟨none, 0, rfl, by simp [zeroS], by omega, fun _ => rfl, .inl rfl⟩, RsAt.nil⟩⟩
theorem zeroF_fits (ok : Nat → Prop) (w : World) : fmlR.fits ok w [.int .i64 0, AM [], .int .i64 0, .int .i64 0, .slice none 0 0] zeroF := ⟨rfl, FAt.leaf _ _ _ _ _ _⟩
theorem RunAns.out {α : Type} {R : Rp α} {z : List Value} {za : α} {P : Out α → Prop} {w w' : World} {v : Value} (h : RunAns R aggV z P w w' v) (hz : R.fits (fresh w) w' z za) :
  ∃ (o : Out α) (c : List Value), P o ∧ v = .tuple #[.agg c.toArray, .int .i64 o.errno, .int .i64 o.loc] ∧ Ext w w' ∧ R.fits (fresh w) w' c (o.val za) := by
 obtain ⟨c, e, q, rfl, k, h | h⟩ := h
 ·obtain ⟨a, h1, rfl, rfl, h4⟩ := h
  exact ⟨.ok a, c, h1, rfl, k, h4⟩
 ·obtain ⟨p, h1, h2, rfl, rfl⟩ := h
  exact ⟨.error (e, p), c, h1, rfl, k, hz⟩
def parseD (nt : NT) (t : List UInt8) (n : Nat) : Option (Out nt.T) := match lexM t with
 | .error e => some (.error e)
 | .ok ts => (evG (evN n) (whole nt) ts).map (errOf t.length)
theorem PRes.of {nt : NT} {t : List UInt8} {n : Nat} {r : Out nt.T} (h : parseD nt t n = some r) : PRes nt t r := by
 unfold parseD at h
 unfold PRes
 cases hm : lexM t with
 | error e => rw [hm] at h; exact (Option.some.inj h).symm
 | ok ts =>
  rw [hm] at h
  obtain ⟨a, h1, h2⟩ := Option.map_eq_some_iff.1 h
  exact ⟨a, ⟨n, h1⟩, h2.symm⟩
theorem madeSgn2 : (madeCells (Value.agg #[AM [], .bool false, .int .i64 0]).cells (2 * 3)).toList = [AM [], .bool false, .int .i64 0, AM [], .bool false, .int .i64 0] := by kernel_rfl
theorem FV.five {w : World} {v : Value} {f : Fml} (h : FV w v f) : ∃ c0 c1 c2 c3 c4, v = .agg [c0, c1, c2, c3, c4].toArray ∧ oneC [c0, c1, c2, c3, c4] := by
 obtain ⟨cs, rfl, hcs, hone⟩ := FAt.cells h
 obtain ⟨c0, c1, c2, c3, c4, rfl⟩ := CW hcs
 exact ⟨_, _, _, _, _, rfl, hone⟩
theorem FV.fresh {w w' : World} {e : TypeId} {L : List (List Value)} {l : List Fml} (n : New w w' e L.flatten) (h : FsAt BH w L l) (hl : l.length ≤ 1000000) : Sl BH w' (.slice (some ⟨w.heap.size, 0, none⟩) l.length l.length) l.length L.flatten ∧ FsAt BH w' L l := FsAt.fresh n h trivial hl
end Go.Proofs.YtfcgdbmoncnibaaGreatDoor
namespace Go.Proofs.YtfcgdbmoncnibaaGreatDoor
instance weakMK : MK False := ⟨trivial⟩
end Go.Proofs.YtfcgdbmoncnibaaGreatDoor
namespace Go.Proofs.YtfcgdbmoncnibaaGreatDoor
open Go.RowKit
set_option linter.unusedVariables false
theorem strongMK : MK True := ⟨trivial⟩
theorem parseU_F (w : World) (t : List UInt8) (hG : GK w) : Fn Tryz.prog 30 [AM t] w fun v w' => ∃ (o : Out (NT.T .formula)) (c : List Value), PRes .formula t o ∧ v = .tuple #[.agg c.toArray, .int .i64 o.errno, .int .i64 o.loc] ∧ Ext w w' ∧ Rp.fits fmlR (fresh w) w' c (o.val zeroF) ∧ ∀ b, w.heap.size ≤ b → Unm w' b := by
 refine (@parse_F True strongMK w t hG).mono ?_
 intro v w' hh
 obtain ⟨o, c, p, e, k, f⟩ := @RunAns.out True strongMK _ _ _ zeroF _ _ _ _ hh (zeroF_fits _ _)
 exact ⟨o, c, p, e, @Keep.weak False weakMK strongMK _ _ _ k, f, fun b hb => @Keep.fresh strongMK _ _ _ k _ hb⟩
theorem parseU_S (w : World) (t : List UInt8) (hG : GK w) : Fn Tryz.prog 23 [AM t] w fun v w' => ∃ (o : Out (NT.T .spec)) (c : List Value), PRes .spec t o ∧ v = .tuple #[.agg c.toArray, .int .i64 o.errno, .int .i64 o.loc] ∧ Ext w w' ∧ Rp.fits spcR (fresh w) w' c (o.val zeroS) ∧ ∀ b, w.heap.size ≤ b → Unm w' b := by
 refine (@parse_S True strongMK w t hG).mono ?_
 intro v w' hh
 obtain ⟨o, c, p, e, k, f⟩ := @RunAns.out True strongMK _ _ _ zeroS _ _ _ _ hh (zeroS_fits _ _)
 exact ⟨o, c, p, e, @Keep.weak False weakMK strongMK _ _ _ k, f, fun b hb => @Keep.fresh strongMK _ _ _ k _ hb⟩
end Go.Proofs.YtfcgdbmoncnibaaGreatDoor
namespace Go.Proofs.YtfcgdbmoncnibaaGreatDoor
open Go.RowKit
set_option linter.unusedVariables false
variable {mk : Prop} [MK mk]
def fcC (f : Fml) (av : Value) : List Value := [.int .i64 f.op, AM f.name, .int .i64 f.val, .int .i64 f.bound, av]
def PF (ok : Nat → Prop) (w : World) (b o : Nat) (f : Fml) : Prop := ok b ∧ ∃ d : List Value, d.length = 5 ∧ Cells w b o d ∧ FAt ok w (.agg d.toArray) f
theorem PF.keep {ok : Nat → Prop} {X : List Nat} {w w' : World} {b o : Nat} {f : Fml} (h : PF ok w b o f) (k : Keep X w w') (hX : ∀ b, ok b → b ∉ X) : PF ok w' b o f := by
 obtain ⟨hb, d, hd, hc, hf⟩ := h
 exact ⟨hb, d, hd, hc.keep k (hX b hb), hf.keep k hX⟩
theorem PF.lt {ok : Nat → Prop} {w : World} {b o : Nat} {f : Fml} (h : PF ok w b o f) : PF (fun b => ok b ∧ b < w.heap.size) w b o f := by
 obtain ⟨hb, d, hd, hc, hf⟩ := h
 obtain ⟨d0, d1, d2, d3, d4, rfl⟩ := CW hd
 exact ⟨⟨hb, World.block_lt_of_cell? w _ (hc 0 _ rfl)⟩, _, rfl, hc, hf.lt⟩
theorem PF.mono {ok ok' : Nat → Prop} {w : World} {b o : Nat} {f : Fml} (h : PF ok w b o f) (hk : ∀ b, ok b → ok' b) : PF ok' w b o f := by
 obtain ⟨hb, d, hd, hc, hf⟩ := h
 exact ⟨hk b hb, d, hd, hc, hf.mono hk⟩
theorem PF.form {ok : Nat → Prop} {w : World} {b o : Nat} {f : Fml} (h : PF ok w b o f) : ok b ∧ ∃ a c L, Cells w b o (fcC f (.slice a f.args.length c)) ∧ Sl ok w (.slice a f.args.length c) f.args.length L.flatten ∧ FsAt ok w L f.args := by
 obtain ⟨hb, d, hd, hc, hf⟩ := h
 obtain ⟨av, e, L, hS, h1, h2, h3⟩ := hf.form
 obtain ⟨a, c, rfl, _⟩ := id hS
 have e := congrArg Array.toList (Value.agg.inj e)
 have e : d = fcC f (.slice a f.args.length c) := e
 subst e
 exact ⟨hb, a, c, L, hc, hS, h1, h2, h3⟩
end Go.Proofs.YtfcgdbmoncnibaaGreatDoor
namespace Go.Proofs.YtfcgdbmoncnibaaGreatDoor
open Go.RowKit
set_option linter.unusedVariables false
variable {mk : Prop} [MK mk]
structure Form where
 least : Int
 most : Int
 val : Int
 bound : Int
 named : Bool
 past : Bool
 future : Bool
 loose : Bool
def formsL : List Form := [⟨0, 0, 0, 0, false, false, false, false⟩, ⟨0, 0, 0, 0, false, false, false, true⟩, ⟨0, 0, 0, 0, false, false, false, true⟩, ⟨0, 0, 3, 0, true, false, false, true⟩, ⟨1, 1, 0, 0, false, false, false, true⟩,
 ⟨2, 1099511627776, 0, 0, false, false, false, true⟩, ⟨2, 1099511627776, 0, 0, false, false, false, true⟩, ⟨2, 2, 0, 0, false, false, false, false⟩, ⟨1, 1, 0, 0, false, false, true, true⟩, ⟨2, 2, 0, 0, false, false, true, true⟩,
 ⟨2, 2, 0, 0, false, false, true, true⟩, ⟨1, 1, 0, 0, false, false, true, false⟩, ⟨1, 1, 0, 0, false, false, true, false⟩, ⟨1, 1, 0, 9, false, false, true, false⟩, ⟨1, 1, 0, 9, false, false, true, false⟩,
 ⟨1, 1, 1, 0, false, true, false, true⟩, ⟨2, 2, 1, 0, false, true, false, true⟩, ⟨2, 2, 1, 0, false, true, false, true⟩, ⟨1, 1, 0, 0, false, true, false, false⟩, ⟨1, 1, 0, 0, false, true, false, false⟩]
def B9 (x : Form) : List Value := [.int .i64 x.least, .int .i64 x.most, .int .i64 x.val, .int .i64 x.bound, .bool x.named, .bool x.past, .bool x.future, .bool x.loose]
def formC : List Value := formsL.flatMap B9
def GF (w : World) : Prop := Cells w 2 0 formC
theorem GF.keep {X : List Nat} {w w' : World} (h : GF w) (k : Keep X w w') (hX : ∀ x ∈ X, 10 ≤ x) : GF w' := Cells.keep h k (fun hx => by have := hX _ hx; revert this; decide)
theorem GF.ext {w w' : World} (h : GF w) (k : Ext w w') : GF w' := h.keep k fun x hx => by cases hx
def zeroForm : Form := ⟨0, 0, 0, 0, false, false, false, false⟩
def isOpB (n : Int) : Bool := decide (1 ≤ n) && decide (n < 20)
def C1 (n : Int) : Form := if isOpB n then formsL.getD n.toNat zeroForm else zeroForm
theorem formC_at : ∀ (l : List Form) (k i : Nat) (x : Form) (u : Value), l[k]? = some x → (B9 x)[i]? = some u → (l.flatMap B9)[k * 8 + i]? = some u
 | [], _, _, _, _, h, _ => by simp at h
 | y :: l, 0, i, x, u, h, hu => by
  obtain rfl : y = x := by simpa using h
  rw [List.flatMap_cons, Nat.zero_mul, Nat.zero_add, List.getElem?_append_left (List.getElem?_eq_some_iff.1 hu).1, hu]
 | y :: l, k + 1, i, x, u, h, hu => by
  have := formC_at l k i x u (by simpa using h) hu
  rw [List.flatMap_cons, List.getElem?_append_right (by simp [B9]; omega), show (k + 1) * 8 + i - (B9 y).length = k * 8 + i by simp [B9]; omega, this]
theorem formC_one (x : Form) : oneC (B9 x) := by
 intro u hu
 simp [B9] at hu
 rcases hu with rfl | rfl | rfl | rfl | rfl | rfl | rfl | rfl <;> rfl
theorem formOf_ok (w : World) (n : Int) (hG : GF w) : Fn Tryz.prog 118 [.int .i64 n] w fun v w' => v = .tuple #[.agg (B9 (C1 n)).toArray, .bool (isOpB n)] ∧ Ext w w' := by
 refine Ad Tryz.func118 rfl Tryz.ntmps118 (Nat.le_of_ble_eq_true rfl) (by kernel_rfl) ?_
 repeat refine nx rfl ?_
 (refine AA ?_; refine Aw (fun w1 n1 => ?_))
 have b1 : Blk w1 w.heap.size 175 (B9 zeroForm) := n1.blk
 have k1 := n1.keep
 refine AB (AC rfl ?_)
 repeat refine nx rfl ?_
 by_cases hn : 1 ≤ n ∧ n < 20
 ·have hb : isOpB n = true := by simp [isOpB, hn]
  obtain ⟨k, rfl⟩ : ∃ k : Nat, n = (k : Int) := ⟨n.toNat, by omega⟩
  obtain ⟨x, hx⟩ : ∃ x, formsL[k]? = some x := ⟨_, List.getElem?_eq_getElem (by show k < 20; omega)⟩
  have hm : C1 (k : Int) = x := by unfold C1; rw [if_pos hb]; simp [List.getD_eq_getElem?_getD, hx]
  have hcl : Cells w1 2 (0 + (k : Int).toNat * 8) (B9 x) := by
   intro i u hu
   have := (hG.ext k1) (k * 8 + i) u (formC_at formsL k i x u hx hu)
   rw [Nat.add_assoc]; exact this
  rw [hb, hm]
  refine AA (AH rfl (BN rfl rfl (by omega) (AC rfl (AE rfl (AH rfl (AE rfl (W_geqF rfl rfl (by omega) (AQ rfl (AC rfl ?_)))))))))
  repeat first | refine nx rfl ?_ | refine nf rfl ?_
  refine AA (AH rfl ?_)
  refine W_indexArr rfl rfl (by omega) (by omega) ?_
  refine AZ (L := B9 x) rfl rfl hcl ?_
  refine Aa (cs := B9 x) rfl rfl rfl (formC_one x) b1 (by simp [B9]) (fun w2 p2 => ?_)
  refine AB (AC rfl ?_)
  repeat refine nx rfl ?_
  exact fin_retA1 (L := B9 x) rfl rfl rfl p2.blk.cells ⟨rfl, k1.keep p2.keep (by simp)⟩
 ·have hb : isOpB n = false := by simp [isOpB]; omega
  have hm : C1 n = zeroForm := by unfold C1; rw [if_neg (by simp [hb])]
  rw [hb, hm]
  (refine AA (AH rfl ?_) <;> (refine W_lss rfl rfl (fun hc => ?_) (fun hc => ?_) <;> try omega) <;> refine AC rfl ?_ <;> (first | refine AJ rfl ?_ | (refine AE rfl ?_; refine AH rfl ?_)) <;> (first | refine AJ rfl ?_ | (refine AE rfl ?_; refine W_geqT rfl rfl (by omega) ?_)) <;> ((first | refine AO rfl ?_ | refine AQ rfl ?_); refine AC rfl ?_) <;> refine AI ?_)
  all_goals
   repeat refine nx rfl ?_
   refine AA (Ac (by rfl) (by rfl) ?_)
   refine Aa (cs := B9 zeroForm) rfl rfl rfl (formC_one _) b1 (by simp [B9]) (fun w2 p2 => ?_)
   refine AB (AC rfl ?_)
   repeat refine nx rfl ?_
   exact fin_retA1 (L := B9 zeroForm) rfl rfl rfl p2.blk.cells ⟨rfl, k1.keep p2.keep (by simp)⟩
theorem rtrue_ok (w : World) : Fn Tryz.prog 68 [] w fun v w' => Ext w w' ∧ FV w' v ⟨1, [], 0, 0, []⟩ := by
 refine Ad Tryz.func68 rfl Tryz.ntmps68 (Nat.le_of_ble_eq_true rfl) (by kernel_rfl) ?_
 repeat refine nx rfl ?_
 refine AA ?_
 refine Aw (fun w1 n1 => ?_)
 have b1 : Blk w1 w.heap.size 24 Cc := n1.blk
 repeat refine nx rfl ?_
 refine AA (Ac (by rfl) (by rfl) ?_)
 refine Aa (cs := [.int .i64 1, AM [], .int .i64 0, .int .i64 0, .slice none 0 0]) rfl rfl rfl (Bj rfl) b1 (by simp [Cc]) (fun w2 p2 => ?_)
 have b2 : Blk w2 w.heap.size 24 [.int .i64 1, AM [], .int .i64 0, .int .i64 0, .slice none 0 0] := p2.blk
 repeat refine nx rfl ?_
 exact A6 rfl rfl rfl b2.cells ⟨n1.keep.keep p2.keep (by simp), FAt.leaf _ _ _ _ _ _⟩
def findM (l : List Sgn) (s : List UInt8) : Int := match l.findIdx? (fun x => decide (x.name = s)) with
 | some i => (i : Int)
 | none => -1
theorem sigFind_ok (w : World) (v : Value) (l : List Sgn) (s : List UInt8) (h : SlAt sgnR BH w v l) : Fn Tryz.prog 40 [v, AM s] w fun v w' => v = .int .i64 (findM l s) ∧ w' = w := by
 obtain ⟨a, c, L, rfl, hS, hF⟩ := h
 have hlm : l.length ≤ 9223372036854775807 := by obtain ⟨_, _, hv, g1, g2, _⟩ := id hS; cases hv; omega
 refine Ad Tryz.func40 rfl Tryz.ntmps40 (Nat.le_of_ble_eq_true rfl) (by kernel_rfl) ?_
 repeat refine nx rfl ?_
 refine AA (AB (AH rfl ?_))
 repeat refine nx rfl ?_
 refine AA (Ah rfl (As rfl (AH rfl ?_)))
 repeat refine nx rfl ?_
 refine BY (α := Nat) (fun k => [(0, .slice a l.length c), (1, AM s), (7, .int .i64 (l.length : Int)), (8, .int .i64 (k : Int))]) (fun k W => k ≤ l.length ∧ W = w ∧ ∀ j y, j < k → l[j]? = some y → y.name ≠ s) (fun k => l.length - k) 0 ⟨rfl, rfl, rfl, rfl, trivial⟩ ⟨by omega, rfl, fun j y hj => by omega⟩ ?_
 rintro k w3 f3 ⟨hk, rfl, hj⟩
 repeat refine nx rfl ?_
 by_cases hlt : k < l.length
 ·obtain ⟨y, hy⟩ : ∃ y, l[k]? = some y := ⟨_, List.getElem?_eq_getElem hlt⟩
  obtain ⟨cy, hcy⟩ : ∃ cy, L[k]? = some cy := ⟨_, List.getElem?_eq_getElem (by rw [hF.1]; exact hlt)⟩
  obtain rfl : cy = Ce y := hF.2 k cy y hcy hy
  obtain ⟨b, o, rfl, _, hcell⟩ := hS.recs hF (sz := 3) rfl hcy hlt
  have c0 : w3.cell? ⟨b, o + k * 3 + 0, none⟩ = some (AM y.name) := hcell 0 _ rfl
  refine AA (BM rfl rfl (by omega) ?_)
  repeat refine nx rfl ?_
  refine AA (AH rfl (AB (AH rfl ?_)))
  repeat refine nx rfl ?_
  refine AA (Ah rfl (AH rfl ?_))
  refine CH (k := k) rfl rfl rfl hlt ?_
  by_cases hyx : y.name = s
  ·(refine AD rfl (AG rfl (by assumption) ?_) <;> refine AY rfl ?_ <;> refine CK rfl rfl (fun hc => ?_) (fun hc => ?_) <;> refine AI ?_)
   case refine_2 => exact absurd hyx (by assumption)
   repeat refine nx rfl ?_
   refine AA (AH rfl (AB (AH rfl ?_)))
   repeat refine nx rfl ?_
   refine AP rfl ⟨?_, rfl⟩
   have : l.findIdx? (fun x => decide (x.name = s)) = some k := by
    rw [List.findIdx?_eq_some_iff_getElem]
    obtain ⟨h1, h2⟩ := List.getElem?_eq_some_iff.1 hy
    refine ⟨hlt, by simp [h2, hyx], fun j hjk => ?_⟩
    have := hj j l[j] hjk (List.getElem?_eq_getElem (by omega))
    simpa using this
   unfold findM
   rw [this]; rfl
  ·(refine AD rfl (AG rfl (by assumption) ?_) <;> refine AY rfl ?_ <;> refine CK rfl rfl (fun hc => ?_) (fun hc => ?_) <;> refine AI ?_)
   case refine_1 => exact absurd (by assumption) hyx
   repeat first | refine nx rfl ?_ | refine nf rfl ?_
   (refine AA (BR rfl rfl (by first | exact Al (by omega) (by omega) | exact At (by omega) (by omega) | exact Am (by omega) (by omega)) ?_) <;> refine AH rfl ?_)
   repeat refine nx rfl ?_
   refine ⟨k + 1, ⟨rfl, ⟨rfl, rfl, rfl, ?_, trivial⟩, ⟨by omega, rfl, fun j z hjk hz => ?_⟩⟩, by omega⟩
   ·show Value.int .i64 ((k : Int) + 1) = _
    rw [Int.natCast_add]; rfl
   ·rcases Nat.lt_or_ge j k with h | h
    ·exact hj j z h hz
    ·obtain rfl : j = k := by omega
     rw [hy] at hz; cases hz; exact hyx
 ·obtain rfl : k = l.length := by omega
  refine AA (BN rfl rfl (by omega) ?_)
  repeat first | refine nx rfl ?_ | refine nf rfl ?_
  refine AA (AB (AH rfl ?_))
  repeat refine nx rfl ?_
  refine AP rfl ⟨?_, rfl⟩
  have : l.findIdx? (fun x => decide (x.name = s)) = none := by
   rw [List.findIdx?_eq_none_iff]
   intro x hx
   obtain ⟨i, hi⟩ := List.getElem?_of_mem hx
   simpa using hj i x (List.getElem?_eq_some_iff.1 hi).1 hi
  unfold findM
  rw [this]; rfl
end Go.Proofs.YtfcgdbmoncnibaaGreatDoor
namespace Go.Proofs.YtfcgdbmoncnibaaGreatDoor
set_option linter.unusedVariables false
mutual
def szF : Fml → Nat
 | .mk _ _ _ _ args => szL args + 1
def szL : List Fml → Nat
 | [] => 0
 | a :: l => szF a + szL l
end
theorem szF_eq (f : Fml) : szF f = szL f.args + 1 := by cases f; simp [szF, Fml.args]
theorem szF_pos (f : Fml) : 1 ≤ szF f := by rw [szF_eq]; omega
theorem szL_len : ∀ l : List Fml, l.length ≤ szL l
 | [] => by simp
 | a :: l => by have := szF_pos a; have := szL_len l; simp only [szL, List.length_cons]; omega
theorem szL_mem : ∀ {l : List Fml} {a : Fml}, a ∈ l → szF a ≤ szL l
 | c :: l, a, h => by
  simp only [szL]
  rcases List.mem_cons.1 h with rfl | h
  ·omega
  ·have := szL_mem h; omega
end Go.Proofs.YtfcgdbmoncnibaaGreatDoor
