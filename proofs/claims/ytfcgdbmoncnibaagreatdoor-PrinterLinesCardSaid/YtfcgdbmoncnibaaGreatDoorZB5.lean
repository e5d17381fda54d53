/- The parser: nodes, formulas in a row. The parser: primary formulas. The parser: formulas. The parser: formulas with operators between them. The parser: values in a row, loops that read them. Joins: what holds behind a branch, as a function of a state. Conditions: none. -/
import Derived.Test.YtfcgdbmoncnibaaGreatDoorZB4

namespace Go.Proofs.YtfcgdbmoncnibaaGreatDoor
open Go.RowKit
set_option linter.unusedVariables false
variable {mk : Prop} [MK mk]
structure PW (w : World) (E : Env) (ts : List Tok) : Prop where
 st : PSt w E ts
 gk : GK w
 ge : 10 ≤ E.s
theorem PW.next {w w' : World} {E : Env} {ts ts' : List Tok} (h : PW w E ts) (k : Keep [E.s] w w') (h' : PSt w' E ts') : PW w' E ts' :=
 ⟨h', h.gk.keep k (by have := h.ge; simpa using this), h.ge⟩
theorem PW.ext {w w' : World} {E : Env} {ts : List Tok} (h : PW w E ts) (k : Ext w w') : PW w' E ts := ⟨h.st.ext k, h.gk.ext k, h.ge⟩
theorem PW.keep {X : List Nat} {w w' : World} {E : Env} {ts : List Tok} (h : PW w E ts) (k : Keep X w w') (hX : ∀ x ∈ X, E.s < x) : PW w' E ts :=
 ⟨h.st.keep k hX, h.gk.keep k (fun x hx => by have := hX x hx; have := h.ge; omega), h.ge⟩
def CL : List Value := [.int .i64 0, AM [], .int .i64 0, .int .i64 0, .slice none 0 0]
theorem made5 : (madeCells (Value.agg #[.int .i64 0, AM [], .int .i64 0, .int .i64 0, .slice none 0 0]).cells (1 * 5)).toList = CL := by kernel_rfl
theorem made10 : (madeCells (Value.agg #[.int .i64 0, AM [], .int .i64 0, .int .i64 0, .slice none 0 0]).cells (2 * 5)).toList = CL ++ CL := by kernel_rfl
theorem FsAt.fresh {ok : Nat → Prop} {w w' : World} {e : TypeId} {L : List (List Value)} {l : List Fml} (n : New w w' e L.flatten) (h : FsAt ok w L l) (hb : ok w.heap.size) (hl : l.length ≤ 1000000) :
  Sl ok w' (.slice (some ⟨w.heap.size, 0, none⟩) l.length l.length) l.length L.flatten ∧ FsAt ok w' L l :=
 ⟨⟨_, _, rfl, Nat.le_refl _, by omega, (fun h => by cases h), .inr ⟨_, _, rfl, hb, n.blk.cells⟩⟩, h.keep n.keep fun _ _ => by simp⟩
theorem FsAt.one {ok : Nat → Prop} {w : World} {c : List Value} {f : Fml} (h : FAt ok w (.agg c.toArray) f) (hc : c.length = 5) : FsAt ok w [c] [f] := FsAt.cons h hc (FsAt.nil ok w)
theorem FsAt.two {ok : Nat → Prop} {w : World} {c d : List Value} {f g : Fml} (h : FAt ok w (.agg c.toArray) f) (hc : c.length = 5) (h' : FAt ok w (.agg d.toArray) g) (hd : d.length = 5) : FsAt ok w [c, d] [f, g] := FsAt.cons h hc (FsAt.one h' hd)
theorem FsAt.ext {ok : Nat → Prop} {w w' : World} {L : List (List Value)} {l : List Fml} (h : FsAt ok w L l) (k : Ext w w') : FsAt ok w' L l := h.keep k fun _ _ => by simp
theorem flatten_at : ∀ (L : List (List Value)) (k j : Nat) (c : List Value) (v : Value), (∀ c ∈ L, c.length = 5) → L[k]? = some c → c[j]? = some v → L.flatten[k * 5 + j]? = some v
 | [], k, j, c, v, _, h, _ => by simp at h
 | d :: L, 0, j, c, v, h5, h, hv => by
  simp at h; subst h
  rw [List.flatten_cons, Nat.zero_mul, Nat.zero_add, List.getElem?_append_left (List.getElem?_eq_some_iff.1 hv).1]; exact hv
 | d :: L, k + 1, j, c, v, h5, h, hv => by
  have hd := h5 d (by simp)
  rw [List.flatten_cons, List.getElem?_append_right (by omega), hd, show (k + 1) * 5 + j - 5 = k * 5 + j by omega]
  exact flatten_at L k j c v (fun c hc => h5 c (by simp [hc])) (by simpa using h) hv
theorem Sl.fml {ok : Nat → Prop} {w : World} {a : Option Addr} {n cap k : Nat} {L : List (List Value)} {c : List Value} (h : Sl ok w (.slice a n cap) n L.flatten) (h5 : ∀ c ∈ L, c.length = 5) (hk : L[k]? = some c) (hn : k < n) :
  ∃ b o, a = some ⟨b, o, none⟩ ∧ ok b ∧ Cells w b (o + k * 5) c := by
 obtain ⟨a', cap', hv, h1, h2, h3, h4⟩ := h
 cases hv
 obtain ⟨b, o, rfl, hb, hc⟩ := h4.resolve_left (by omega)
 refine ⟨b, o, rfl, hb, fun j v hv => ?_⟩
 have := hc _ _ (flatten_at L k j c v h5 hk hv)
 rwa [← Nat.add_assoc] at this
theorem node_ok (w : World) (op : Int) (ok : Nat → Prop) (a : Option Addr) (cap : Nat) (L : List (List Value)) (l : List Fml) (hS : Sl ok w (.slice a l.length cap) l.length L.flatten) (hF : FsAt ok w L l) (hl : l ≠ []) :
  Fn Tryz.prog 142 [.int .i64 op, .slice a l.length cap] w fun v w' => Ext w w' ∧ FAt ok w' v (nodeF op l) := by
 refine Ac Tryz.func142 rfl Tryz.ntmps142 (Nat.le_of_ble_eq_true rfl) (by kernel_rfl) ?_
 repeat' first | refine nx rfl ?_ | fail
 (refine AA ?_)
 refine Au (fun w1 n1 => ?_)
 have b1 : Blk w1 w.heap.size 24 CL := n1.blk
 repeat' first | refine nx rfl ?_ | fail
 have hS1 := hS.ext n1.keep
 have hF1 := hF.ext n1.keep
 by_cases h1 : l.length = 1
 ·match l, L, h1, hF1, hS1 with
  | [f], [c], _, hF1, hS1 =>
   have hc5 := hF1.2.1 c (by simp)
   have hf := hF1.2.2 0 c f rfl rfl
   obtain ⟨c', e', _, hone⟩ := hf.cells
   have ecc : c = c' := by simpa using e'
   subst ecc
   obtain ⟨b, o, rfl, hb, hcc⟩ := hS1.fml hF1.2.1 (k := 0) rfl (by simp)
   have hl1 : [f].length = 1 := rfl
   (refine AA (Al rfl (Aq rfl ?_)) <;> (refine AK rfl rfl (fun hc => ?_) (fun hc => ?_) <;> try omega))
   repeat' first | refine nx rfl ?_ | fail
   (refine AA (Al rfl ?_) <;> refine A1 rfl rfl (by omega) (by omega) ?_)
   refine AV (L := c) rfl hc5 hcc ?_
   refine Ad (cs := c) rfl rfl hc5 hone b1 (by simp [CL]) (fun w2 p2 => ?_)
   have b2 : Blk w2 w.heap.size 24 c := by
    have := p2.blk
    match c, hc5 with
    | [c0, c1, c2, c3, c4], _ => exact this
   repeat' first | refine nx rfl ?_ | fail
   have k2 : Ext w w2 := n1.keep.keep p2.keep (by simp)
   refine Az rfl rfl hc5 b2.cells ⟨k2, ?_⟩
   exact (hF.2.2 0 c f rfl rfl).ext k2
 ·(refine AA (Al rfl (Aq rfl ?_)) <;> (refine AK rfl rfl (fun hc => ?_) (fun hc => ?_) <;> try omega))
  repeat' first | refine nx rfl ?_ | refine nf rfl ?_
  (refine AA (AI rfl (Al rfl ?_)) <;> refine Ae (by rfl) (by rfl) ?_)
  refine Ad (cs := [.int .i64 op, AM [], .int .i64 0, .int .i64 0, .slice a l.length cap]) rfl rfl rfl (by intro u hu; simp at hu; rcases hu with rfl | rfl | rfl | rfl | rfl <;> rfl) b1 (by simp [CL]) (fun w2 p2 => ?_)
  have b2 : Blk w2 w.heap.size 24 [.int .i64 op, AM [], .int .i64 0, .int .i64 0, .slice a l.length cap] := p2.blk
  repeat' first | refine nx rfl ?_ | fail
  have k2 : Ext w w2 := n1.keep.keep p2.keep (by simp)
  have en : nodeF op l = ⟨op, [], 0, 0, l⟩ := by
   match l, h1, hl with
   | _ :: _ :: _, _, _ => rfl
  rw [en]
  exact Az rfl rfl rfl b2.cells ⟨k2, FAt.node op [] 0 0 (hS.ext k2) (hF.ext k2)⟩
structure ChainP (sep : List UInt8) (pi : G Fml) (pl : G (List Fml)) : Prop where
 done : ∀ {t t'}, Run (BO sep) t (.ok (false, t')) → Run pl t (.ok ([], t'))
 more : ∀ {t t1 t2 t3 a l}, Run (BO sep) t (.ok (true, t1)) → Run pi t1 (.ok (a, t2)) → Run pl t2 (.ok (l, t3)) → Run pl t (.ok (a :: l, t3))
 err1 : ∀ {t t1 e}, Run (BO sep) t (.ok (true, t1)) → Run pi t1 (.error e) → Run pl t (.error e)
 err2 : ∀ {t t1 t2 a e}, Run (BO sep) t (.ok (true, t1)) → Run pi t1 (.ok (a, t2)) → Run pl t2 (.error e) → Run pl t (.error e)
def prepA (l : List Fml) : Ans (List Fml) → Ans (List Fml)
 | .ok y => .ok (l ++ y.1, y.2)
 | .error e => .error e
theorem ChainP.step {sep : List UInt8} {pi : G Fml} {pl : G (List Fml)} (h : ChainP sep pi pl) {t t1 t2 : List Tok} {a : Fml} (h1 : Run (BO sep) t (.ok (true, t1))) (h2 : Run pi t1 (.ok (a, t2))) {r : Ans (List Fml)} (hr : Run pl t2 r) : Run pl t (prepA [a] r) := by
 cases r with
 | ok y => exact h.more h1 h2 hr
 | error e => exact h.err2 h1 h2 hr
theorem prepA_app (l m : List Fml) (r : Ans (List Fml)) : prepA l (prepA m r) = prepA (l ++ m) r := by
 cases r <;> simp [prepA]
theorem accepts_inv {t : List UInt8} {ts ts' : List Tok} {b : Bool} (h : Run (BO t) ts (.ok (b, ts'))) : (b = true ∧ ts'.length + 1 = ts.length ∧ CI t (ts.head?.map bare) = true ∧ ts' = ts.tail) ∨ (b = false ∧ ts' = ts ∧ CI t (ts.head?.map bare) = false) := by
 cases hs : CI t (ts.head?.map bare) with
 | true =>
  have e := h.det (run_accepts_t hs)
  cases e
  cases ts with
  | nil => simp [CI] at hs
  | cons x l => exact .inl ⟨rfl, rfl, rfl, rfl⟩
 | false =>
  have e := h.det (run_accepts_f hs)
  cases e
  exact .inr ⟨rfl, rfl, rfl⟩
def fresh (w : World) : Nat → Prop := fun b => w.heap.size ≤ b
def B8 (E : Env) (N : Nat) (g : FuncId) (pi : G Fml) : Prop := ∀ (w : World) (ts : List Tok), PW w E ts → ts.length ≤ N → PDo E g [pt E.s] w pi ts (fun w' v a => FAt (fresh w) w' v a)
theorem chain_ok (E : Env) (N : Nat) (g : FuncId) [AR Tryz.prog g] (sep : List UInt8) (pi : G Fml) (pl : G (List Fml)) (hC : ChainP sep pi pl) (hI : B8 E N g pi) (w : World) (ts : List Tok) (h : PW w E ts) (hN : ts.length ≤ N) :
  PDo E 143 [pt E.s, AM sep, .func (.func g) #[pt E.s] #[]] w (pi.bind fun a => pl.bind fun l => .ret (a :: l)) ts
   (fun w' v l => ∃ a c L, v = .slice a l.length c ∧ l ≠ [] ∧ Sl (fresh w) w' v l.length L.flatten ∧ FsAt (fresh w) w' L l) := by
 have hsl := h.st.slt
 unfold PDo
 refine Ao Tryz.func143 rfl Tryz.ntmps143 (Nat.le_of_ble_eq_true rfl) (by kernel_rfl) ?_
 repeat' first | refine nx rfl ?_ | fail
 refine AA (AC (Al rfl ?_))
 repeat' first | refine nx rfl ?_ | fail
 (refine AA ?_ <;> refine CO rfl ?_)
 refine Bz (v1 := [pt E.s]) (v2 := []) (vs := []) rfl (hI w ts h hN) rfl ?_ ?_
 rotate_left
 ·rintro ch w1 ⟨k1, l, r1, rfl⟩
  repeat' first | refine nx rfl ?_ | fail
  exact AX ⟨k1, l, Run.bindE r1, rfl⟩
 rintro v w1 ⟨k1, a0, t1, r1, q1, f1⟩
 have h1 := h.next k1 q1
 have f1' := f1.lt
 obtain ⟨av, rfl, _⟩ := f1.form
 refine AT (out := [.int .i64 a0.op, AM a0.name, .int .i64 a0.val, .int .i64 a0.bound, av]) rfl (by omega) (by rw [made5]; rfl) (fun w2 n2 => ?_)
 have z2 := n2.size
 have o2 := n2.own (n := 1) (size := 5) rfl (by unfold maxLen; omega) (Nat.le_refl _)
 have h2 := h1.ext n2.keep
 have hws := k1.size
 ((refine AC ?_; refine Al rfl ?_))
 repeat' first | refine nx rfl ?_ | fail
 have ht1 : t1.length ≤ ts.length := (show t1 <:+ ts from r1.suffix).length_le
 refine BC (α := Value × List (List Value) × List Fml × List Tok) (fun x => [(0, pt E.s), (1, AM sep), (2, .func (.func g) #[pt E.s] #[]), (7, x.1)])
  (fun x W => Keep [E.s] w W ∧ PW W E x.2.2.2 ∧ x.2.2.2.length ≤ t1.length ∧ x.2.2.1.length + x.2.2.2.length ≤ ts.length + 1 ∧ x.1.ownBlock ≠ none ∧ W.ownsRow w1.heap.size 24 5 x.1 x.2.2.1.length x.2.1.flatten ∧ FsAt (fun b => fresh w b ∧ x.1.ownBlock ≠ some b) W x.2.1 x.2.2.1 ∧
   ∃ l', x.2.2.1 = a0 :: l' ∧ ∀ r, Run pl x.2.2.2 r → Run pl t1 (prepA l' r))
  (fun x => x.2.2.2.length) (.slice (some ⟨w1.heap.size, 0, none⟩) 1 1, [[.int .i64 a0.op, AM a0.name, .int .i64 a0.val, .int .i64 a0.bound, av]], [a0], t1)
  ⟨rfl, rfl, rfl, rfl, trivial⟩ ⟨k1.ext n2.keep, h2, Nat.le_refl _, by simp; omega, by simp [Value.ownBlock], by simpa using o2, ?_, [], rfl, fun r hr => by cases r <;> simpa [prepA] using hr⟩ ?_
 ·exact FsAt.one ((f1'.ext n2.keep).mono fun b hb => ⟨hb.1, by simp [Value.ownBlock]; omega⟩) rfl
 rintro ⟨v, L, l, cur⟩ w3 f3 ⟨k3, h3, hcur, hcnt, hown, o3, F3, l', rfl, hcont⟩
 simp only at k3 h3 hcur hcnt hown o3 F3 hcont ⊢
 repeat' first | refine nx rfl ?_ | fail
 refine AA (AO rfl (Ab rfl ?_))
 refine AS (Bl E w3 cur sep h3.st) rfl ?_
 rintro _ w4 ⟨k4, b, c1, rfl, r4, q4⟩
 have h4 := h3.next k4 q4
 have hsg : ∀ g, v.ownBlock = some g → w1.heap.size ≤ g ∧ g < w3.heap.size := fun g hg => BW o3 hg
 have o4 := Ay o3 k4 (fun g hg => by have := hsg g hg; simp; omega)
 have F4 := F3.keep k4 (fun b hb => by have := hb.1; simp [fresh] at this ⊢; omega)
 have k34 := k3.trans k4 (by simp)
 rcases accepts_inv r4 with ⟨rfl, hlen4, _, _⟩ | ⟨rfl, rfl, _⟩
 ·refine AE ?_
  repeat' first | refine nx rfl ?_ | fail
  (refine AA (AU ?_) <;> refine CO rfl ?_)
  refine Bz (v1 := [pt E.s]) (v2 := []) (vs := []) rfl (hI w4 c1 h4 (by omega)) rfl ?_ ?_
  rotate_left
  ·rintro ch w5 ⟨k5, l, r5, rfl⟩
   repeat' first | refine nx rfl ?_ | fail
   exact AX ⟨k34.trans k5 (by simp), l, r1.bind (Run.bindE (hcont _ (hC.err1 r4 r5))), rfl⟩
  rintro u w5 ⟨k5, a, c2, r5, q5, f5⟩
  have h5 := h4.next k5 q5
  have hc2 : c2.length ≤ c1.length := (show c2 <:+ c1 from r5.suffix).length_le
  have o5 := Ay o4 k5 (fun g hg => by have := hsg g hg; simp; omega)
  have F5 := F4.keep k5 (fun b hb => by have := hb.1; simp [fresh] at this ⊢; omega)
  have k35 := k34.trans k5 (by simp)
  have f5' := f5.lt
  have z34 := k4.size
  have z5 := k5.size
  have z3 := k3.size
  obtain ⟨av5, rfl, L5, S5, _⟩ := f5.form
  obtain ⟨sa5, sc5, rfl, _⟩ := id S5
  have hw13 : w1.heap.size ≤ w3.heap.size := by
   obtain ⟨g, hg⟩ := Option.ne_none_iff_exists'.1 hown
   have := hsg g hg; omega
  refine AT (out := [.int .i64 a.op, AM a.name, .int .i64 a.val, .int .i64 a.bound, .slice sa5 a.args.length sc5]) rfl (by omega) (by rw [made5]; rfl) (fun w6 n6 => ?_)
  have z6 := n6.size
  have o6 := n6.own (n := 1) (size := 5) rfl (by unfold maxLen; omega) (Nat.le_refl _)
  have hts2 := h.st.cnt
  have hll : (a0 :: l').length = l'.length + 1 := rfl
  refine B9 (ok := A2) (v := v) (sv := .slice (some ⟨w5.heap.size, 0, none⟩) 1 1) rfl rfl (Br o5 n6.keep) (A8 o6 fun _ _ => trivial) (by omega) rfl rfl (by intro y hy; simp at hy; rcases hy with rfl | rfl | rfl | rfl | rfl <;> rfl) (by omega) (by omega) (by omega) (fun v7 w7 a7 => ?_)
  ((refine AC ?_; refine AU ?_))
  repeat' first | refine nx rfl ?_ | fail
  have o7 := a7.own
  have e7 : Ext w5 w7 → True := fun _ => trivial
  have h7 := (h5.ext n6.keep).keep a7.keep (fun x hx => by have := hsg x (Option.mem_toList.1 hx); omega)
  have hv7 : ∀ b, v7.ownBlock = some b → v.ownBlock = some b ∨ b = w6.heap.size := fun b hb => by
   rcases a7.blk with e | e
   ·exact .inl (by rw [← e]; exact hb)
   ·rw [e] at hb; exact .inr (Option.some.inj hb).symm
  have F7 : FsAt (fun b => fresh w b ∧ v7.ownBlock ≠ some b) w7 L (a0 :: l') := by
   refine ((F5.lt.keep n6.keep fun _ _ => by simp).keep a7.keep ?_).mono ?_
   ·rintro b ⟨⟨_, hb⟩, _⟩ hx; exact hb (Option.mem_toList.1 hx)
   ·rintro b ⟨⟨h1, hb⟩, hlt⟩
    refine ⟨h1, fun e => ?_⟩
    rcases hv7 b e with e | e
    ·exact hb e
    ·omega
  have f7 : FAt (fun b => fresh w b ∧ v7.ownBlock ≠ some b) w7 (.agg [.int .i64 a.op, AM a.name, .int .i64 a.val, .int .i64 a.bound, .slice sa5 a.args.length sc5].toArray) a := by
   refine ((f5'.ext n6.keep).keep a7.keep ?_).mono ?_
   ·rintro b ⟨hb, hlt⟩ hx
    have := hsg b (Option.mem_toList.1 hx)
    simp [fresh] at hb; omega
   ·rintro b ⟨hb, hlt⟩
    simp only [fresh] at hb ⊢
    refine ⟨by omega, fun e => ?_⟩
    rcases hv7 b e with e | e
    ·have := hsg b e; omega
    ·omega
  refine ⟨(v7, L ++ [[.int .i64 a.op, AM a.name, .int .i64 a.val, .int .i64 a.bound, .slice sa5 a.args.length sc5]], (a0 :: l') ++ [a], c2), ⟨rfl, ⟨rfl, rfl, rfl, rfl, trivial⟩, ⟨?_, h7, by simp only; omega, by simp only [List.length_append, List.length_cons, List.length_nil] at hcnt ⊢; omega, a7.some (by simp), ?_, F7.snoc f7 rfl, l' ++ [a], by simp, fun r hr => ?_⟩⟩, by simp only; omega⟩
  ·exact (k35.ext n6.keep).trans a7.keep (fun x hx hlt => by have := hsg x (Option.mem_toList.1 hx); omega)
  ·have e1 : (L ++ [[Value.int .i64 a.op, AM a.name, .int .i64 a.val, .int .i64 a.bound, .slice sa5 a.args.length sc5]]).flatten = L.flatten ++ [.int .i64 a.op, AM a.name, .int .i64 a.val, .int .i64 a.bound, .slice sa5 a.args.length sc5] := by simp
   simp only
   rw [e1, List.length_append]
   exact o7
  ·rw [← prepA_app]
   exact hcont _ (hC.step r4 r5 hr)
 ·refine AE ?_
  repeat' first | refine nx rfl ?_ | refine nf rfl ?_
  refine AA (AU (AC (AU (AE ?_))))
  have hS := A8 (ok := fresh w) o4 (fun g hg => by have := hsg g hg; simp only [fresh]; omega)
  obtain ⟨sa, sc, rfl, _⟩ := id hS
  repeat' first | refine nx rfl ?_ | fail
  refine AP rfl ⟨k34, a0 :: l', _, r1.bind ((hcont _ (hC.done r4)).bind ?_), q4, _, _, L, rfl, by simp, hS, F4.mono fun b hb => hb.1⟩
  simp only [List.append_nil]
  exact Run.ret _ _
end Go.Proofs.YtfcgdbmoncnibaaGreatDoor
namespace Go.Proofs.YtfcgdbmoncnibaaGreatDoor
open Go.RowKit
set_option linter.unusedVariables false
variable {mk : Prop} [MK mk]
section
variable {P : Program} {all : Array Oper} {Z : Fr → DS → List PanicEntry → World → Prop} {K : Fr → DS → World → Prop} {rest : List Oper} {f : Fr} {ds : DS} {w : World}
 {d : Nat} {ty ty' : TypeId} {pos pos' : String} {af af' : Array Edge}
theorem Bh (L cs : List Value) (h : cs.length = L.length) : splice L 0 cs = cs := by
 simp [splice, h]
theorem A6 {T n : Nat} {x : Operand} {cs z : List Value} [hZ : CT P T z] [hT : B5 P T n] (hx : ev (upd f d (.pointer (some ⟨w.heap.size, 0, none⟩))) x = .agg cs.toArray) (hn : cs.length = n) (hz : z.length = n) (h1 : oneC cs)
  (h : ∀ w', New w w' T cs → AW P all Z K rest (upd f d (.pointer (some ⟨w.heap.size, 0, none⟩))) ds w') :
  AW P all Z K (⟨some d, .alloc T, ty, pos, af, none⟩ :: ⟨none, .store T (.tmp d) x, ty', pos', af', none⟩ :: rest) f ds w := by
 refine Au (L := z) fun w1 n1 => ?_
 refine Ad (b := w.heap.size) (o := 0) (cs := cs) (by simp [ev, upd]) hx hn h1 n1.blk (by omega) fun w2 p2 => ?_
 have e := p2.blk
 rw [Bh z cs (by omega)] at e
 refine h w2 ⟨n1.keep.keep p2.keep (by simp), by rw [p2.size, n1.size], e⟩
theorem BZ {T bt b : Nat} {a x : Operand} {v : Value} {g : Fml} {ok : Nat → Prop} {L : List Value} [hT : B5 P T 5] (ha : ev f a = .pointer (some ⟨b, 0, none⟩)) (hx : ev f x = v) (hf : FAt ok w v g) (hb : Blk w b bt L) (hL : L.length = 5)
  (h : ∀ w' cs, v = .agg cs.toArray → cs.length = 5 → Keep [b] w w' → w'.heap.size = w.heap.size → Blk w' b bt cs → AW P all Z K rest f ds w') :
  AW P all Z K (⟨none, .store T a x, ty, pos, af, none⟩ :: rest) f ds w := by
 obtain ⟨cs, rfl, hcs, hone⟩ := hf.cells
 refine Ad (cs := cs) ha hx hcs hone hb (by omega) fun w' p => ?_
 have e := p.blk
 rw [Bh L cs (by omega)] at e
 exact h w' cs rfl hcs p.keep p.size e
end
theorem FAt.new {ok : Nat → Prop} {w w' : World} {v : Value} {f : Fml} (h : FAt ok w v f) {T : TypeId} {cs : List Value} (n : New w w' T cs) : FAt ok w' v f := h.ext n.keep
theorem oneC_fml (a b c d : Value) (e : Option Addr) (n m : Nat) (ha : a.oneCell' = true) (hb : b.oneCell' = true) (hc : c.oneCell' = true) (hd : d.oneCell' = true) : oneC [a, b, c, d, .slice e n m] := by
 intro u hu
 simp at hu
 rcases hu with rfl | rfl | rfl | rfl | rfl <;> first | assumption | rfl
theorem primary_ok (E : Env) (N : Nat) (hF : ∀ M, M < N → B8 E M 65 (body .formula)) : B8 E N 173 (body .primary) := by
 intro w ts h hN
 have hsl := h.st.slt
 unfold PDo
 refine Ao Tryz.func173 rfl Tryz.ntmps173 (Nat.le_of_ble_eq_true rfl) (by kernel_rfl) ?_
 repeat' first | refine nx rfl ?_ | fail
 (refine AA ?_)
 refine Au (fun w1 n1 => ?_)
 have b1 : Blk w1 w.heap.size 24 CL := n1.blk
 have z1 := n1.size
 have h1 := h.ext n1.keep
 have k1 : Keep [E.s] w w1 := n1.keep.any
 repeat' first | refine nx rfl ?_ | fail
 refine AA (AO rfl ?_)
 refine AS (Bl E w1 ts [116, 114, 117, 101] h1.st) rfl ?_
 rintro _ w2 ⟨k2, b, t2, rfl, r2, q2⟩
 have h2 := h1.next k2 q2
 have b2 := b1.keep k2 (by simp <;> omega)
 have k12 := k1.trans k2 (by simp)
 have z2 := k2.size
 have l2 : t2.length ≤ ts.length := (show t2 <:+ ts from r2.suffix).length_le
 refine AC (AB rfl (AE ?_))
 cases b with
 | true =>
  repeat' first | refine nx rfl ?_ | fail
  (refine AA ?_ <;> refine Ae (by rfl) (by rfl) ?_)
  refine BZ rfl rfl (FAt.leaf (fresh w) w2 1 [] 0 0) b2 rfl (fun w3 cs e hcs k3 z3 b3 => ?_)
  repeat' first | refine nx rfl ?_ | fail
  refine Az rfl rfl hcs b3.cells ⟨k12.trans k3 (by simp <;> omega), _, t2, r2.bind (Run.ret _ _), q2.keep k3 (by simp <;> omega), ?_⟩
  rw [← e]
  exact FAt.leaf _ _ _ _ _ _
 | false =>
 repeat' first | refine nx rfl ?_ | refine nf rfl ?_
 refine AA (AO rfl ?_)
 refine AS (Bl E w2 t2 [102, 97, 108, 115, 101] h2.st) rfl ?_
 rintro _ w3 ⟨k3, b, t3, rfl, r3, q3⟩
 have h3 := h2.next k3 q3
 have b3 := b2.keep k3 (by simp <;> omega)
 have k13 := k12.trans k3 (by simp)
 have z3 := k3.size
 have l3 : t3.length ≤ t2.length := (show t3 <:+ t2 from r3.suffix).length_le
 refine AC (AB rfl (AE ?_))
 cases b with
 | true =>
  repeat' first | refine nx rfl ?_ | fail
  (refine AA ?_ <;> refine Ae (by rfl) (by rfl) ?_)
  refine BZ rfl rfl (FAt.leaf (fresh w) w3 2 [] 0 0) b3 rfl (fun w4 cs e hcs k4 z4 b4 => ?_)
  repeat' first | refine nx rfl ?_ | fail
  refine Az rfl rfl hcs b4.cells ⟨k13.trans k4 (by simp <;> omega), _, t3, r2.bind (r3.bind (Run.ret _ _)), q3.keep k4 (by simp <;> omega), ?_⟩
  rw [← e]
  exact FAt.leaf _ _ _ _ _ _
 | false =>
 repeat' first | refine nx rfl ?_ | refine nf rfl ?_
 refine AA (AO rfl ?_)
 refine AS (Bl E w3 t3 [40] h3.st) rfl ?_
 rintro _ w4 ⟨k4, b, t4, rfl, r4, q4⟩
 have h4 := h3.next k4 q4
 have b4 := b3.keep k4 (by simp <;> omega)
 have k14 := k13.trans k4 (by simp)
 have z4 := k4.size
 have l4 : t4.length ≤ t3.length := (show t4 <:+ t3 from r4.suffix).length_le
 refine AC (AB rfl (AE ?_))
 cases b with
 | true =>
  have l4' : t4.length + 1 = t3.length := by
   rcases accepts_inv r4 with ⟨_, e, _⟩ | ⟨e, _⟩
   ·exact e
   ·cases e
  repeat' first | refine nx rfl ?_ | fail
  refine AA (AO rfl ?_)
  refine AZ (hF t4.length (by omega) w4 t4 h4 (Nat.le_refl _)) rfl ?_ ?_
  rotate_left
  ·
   rintro ch wq ⟨kq, lq, rq, rfl⟩
   repeat' first | refine nx rfl ?_ | fail
   exact AX ⟨k14.trans kq (by simp), lq, r2.bind (r3.bind (r4.bind (Run.callE rq))), rfl⟩
  rintro v w5 ⟨k5, f, t5, r5, q5, f5⟩
  have h5 := h4.next k5 q5
  have b5 := b4.keep k5 (by simp <;> omega)
  have k15 := k14.trans k5 (by simp)
  have z5 := k5.size
  obtain ⟨cs, rfl, hcs, hone⟩ := f5.cells
  refine A6 (cs := cs) rfl hcs (by rfl) hone (fun w6 n6 => ?_)
  have f6 := f5.new n6
  have h6 := h5.ext n6.keep
  have b6 := b5.keep n6.keep (by simp)
  have z6 := n6.size
  have e6 := n6.blk
  repeat' first | refine nx rfl ?_ | fail
  refine AA (AO rfl ?_)
  refine AZ (CM E w6 t5 [41] h6.st) rfl ?_ ?_
  rotate_left
  ·
   rintro ch wq ⟨kq, lq, rq, rfl⟩
   repeat' first | refine nx rfl ?_ | fail
   exact AX ⟨(k15.ext n6.keep).trans kq (by simp), lq, r2.bind (r3.bind (r4.bind (Run.call r5 (Run.bindE rq)))), rfl⟩
  rintro v w7 ⟨k7, _, t7, r7, q7, rfl⟩
  have e7 := e6.keep k7 (by simp <;> omega)
  have b7 := b6.keep k7 (by simp <;> omega)
  have f7 := f6.keep k7 (by intro b hb; simp [fresh] at hb ⊢; omega)
  repeat' first | refine nx rfl ?_ | fail
  (refine AA ?_; refine AY rfl e7 hcs ?_)
  refine BZ rfl rfl f7 b7 rfl (fun w8 cs' e hcs' k8 z8 b8 => ?_)
  repeat' first | refine nx rfl ?_ | fail
  refine Az rfl rfl hcs' b8.cells ⟨((k15.ext n6.keep).trans k7 (by simp)).trans k8 (by simp <;> omega), f, t7, r2.bind (r3.bind (r4.bind (Run.call r5 (r7.bind (Run.ret _ _))))), q7.keep k8 (by simp <;> omega), ?_⟩
  rw [← e]
  exact (f7.keep k8 (by intro b hb; simp [fresh] at hb ⊢; omega)).mono (fun b hb => by simp only [fresh] at hb ⊢; omega)
 | false =>
 repeat' first | refine nx rfl ?_ | refine nf rfl ?_
 refine AA (AO rfl ?_)
 refine AZ (pname_ok E w4 t4 h4.st h4.gk) rfl ?_ ?_
 rotate_left
 ·
  rintro ch wq ⟨kq, lq, rq, rfl⟩
  repeat' first | refine nx rfl ?_ | fail
  exact AX ⟨k14.trans kq (by simp), lq, r2.bind (r3.bind (r4.bind (Run.bindE rq))), rfl⟩
 rintro v w5 ⟨k5, s, t5, r5, q5, rfl, hs⟩
 have h5 := h4.next k5 q5
 have b5 := b4.keep k5 (by simp <;> omega)
 have k15 := k14.trans k5 (by simp)
 have z5 := k5.size
 (refine Ae (by rfl) (by rfl) ?_)
 refine A6 (cs := [.int .i64 3, AM s, .int .i64 1, .int .i64 0, .slice none 0 0]) rfl rfl (by rfl) (oneC_fml _ _ _ _ _ _ _ rfl rfl rfl rfl) (fun w6 n6 => ?_)
 have h6 := h5.ext n6.keep
 have b6 := b5.keep n6.keep (by simp)
 have z6 := n6.size
 have e6 := n6.blk
 have k16 := k15.ext n6.keep
 repeat' first | refine nx rfl ?_ | fail
 refine AA (AO rfl ?_)
 refine AS (Bl E w6 t5 [61] h6.st) rfl ?_
 rintro _ w7 ⟨k7, b, t7, rfl, r7, q7⟩
 have h7 := h6.next k7 q7
 have b7 := b6.keep k7 (by simp <;> omega)
 have e7 := e6.keep k7 (by simp <;> omega)
 have k17 := k16.trans k7 (by simp)
 have z7 := k7.size
 refine AC (AB rfl (AE ?_))
 cases b with
 | true =>
  repeat' first | refine nx rfl ?_ | fail
  refine AA (AO rfl ?_)
  refine AZ (number_ok E w7 t7 h7.st) rfl ?_ ?_
  rotate_left
  ·
   rintro ch wq ⟨kq, lq, rq, rfl⟩
   repeat' first | refine nx rfl ?_ | fail
   exact AX ⟨k17.trans kq (by simp), lq, r2.bind (r3.bind (r4.bind (r5.bind (r7.bind (Run.bindE rq))))), rfl⟩
  rintro v w8 ⟨k8, n, t8, r8, q8, rfl, hn0, hn1⟩
  have b8 := b7.keep k8 (by simp <;> omega)
  have e8 := e7.keep k8 (by simp <;> omega)
  have z8 := k8.size
  (refine AD rfl ?_)
  refine Am rfl rfl rfl e8 (by simp) (fun w9 p9 => ?_)
  have b9 := b8.keep p9.keep (by simp <;> omega)
  have e9 : Blk w9 w5.heap.size 24 [.int .i64 3, AM s, .int .i64 n, .int .i64 0, .slice none 0 0] := p9.blk
  have z9 := p9.size
  repeat' first | refine nx rfl ?_ | fail
  (refine AA ?_ <;> refine AY rfl (by assumption) (by rfl) ?_)
  refine BZ rfl rfl (FAt.leaf (fresh w) w9 3 s n 0) b9 rfl (fun w10 cs e hcs k10 z10 b10 => ?_)
  repeat' first | refine nx rfl ?_ | fail
  refine Az rfl rfl hcs b10.cells ⟨((k17.trans k8 (by simp)).trans p9.keep (by simp <;> omega)).trans k10 (by simp <;> omega), _, t8, r2.bind (r3.bind (r4.bind (r5.bind (r7.bind (r8.bind (Run.ret _ _)))))), (q8.keep p9.keep (by simp <;> omega)).keep k10 (by simp <;> omega), ?_⟩
  rw [← e]
  exact FAt.leaf _ _ _ _ _ _
 | false =>
 repeat' first | refine nx rfl ?_ | refine nf rfl ?_
 refine AA (AO rfl ?_)
 refine AS (Bl E w7 t7 [33, 61] h7.st) rfl ?_
 rintro _ w8 ⟨k8, b, t8, rfl, r8, q8⟩
 have h8 := h7.next k8 q8
 have b8 := b7.keep k8 (by simp <;> omega)
 have e8 := e7.keep k8 (by simp <;> omega)
 have k18 := k17.trans k8 (by simp)
 have z8 := k8.size
 refine AC (AB rfl (AE ?_))
 cases b with
 | true =>
  repeat' first | refine nx rfl ?_ | fail
  refine AA (AO rfl ?_)
  refine AZ (number_ok E w8 t8 h8.st) rfl ?_ ?_
  rotate_left
  ·
   rintro ch wq ⟨kq, lq, rq, rfl⟩
   repeat' first | refine nx rfl ?_ | fail
   exact AX ⟨k18.trans kq (by simp), lq, r2.bind (r3.bind (r4.bind (r5.bind (r7.bind (r8.bind (Run.bindE rq)))))), rfl⟩
  rintro v w9 ⟨k9, n, t9, r9, q9, rfl, hn0, hn1⟩
  have b9 := b8.keep k9 (by simp <;> omega)
  have e9 := e8.keep k9 (by simp <;> omega)
  have z9 := k9.size
  (refine AD rfl ?_)
  refine Am rfl rfl rfl e9 (by simp) (fun w10 p10 => ?_)
  have b10 := b9.keep p10.keep (by simp <;> omega)
  have e10 : Blk w10 w5.heap.size 24 [.int .i64 3, AM s, .int .i64 n, .int .i64 0, .slice none 0 0] := p10.blk
  have z10 := p10.size
  repeat' first | refine nx rfl ?_ | fail
  (refine AA ?_; refine AY rfl e10 rfl ?_)
  refine AT (out := [.int .i64 3, AM s, .int .i64 n, .int .i64 0, .slice none 0 0]) rfl (by omega) (by rw [made5]; rfl) (fun w11 n11 => ?_)
  have z11 := n11.size
  have b11 := b10.keep n11.keep (by simp)
  obtain ⟨S11, F11⟩ := FsAt.fresh (ok := fresh w) (L := [[.int .i64 3, AM s, .int .i64 n, .int .i64 0, .slice none 0 0]]) n11 (FsAt.one (FAt.leaf (fresh w) w10 3 s n 0) rfl) (by simp only [fresh]; omega) (by simp)
  (refine Ae (by rfl) (by rfl) ?_)
  refine BZ rfl rfl (FAt.node 4 [] 0 0 S11 F11) b11 rfl (fun w12 cs e hcs k12' z12 b12 => ?_)
  repeat' first | refine nx rfl ?_ | fail
  refine Az rfl rfl hcs b12.cells ⟨(((k18.trans k9 (by simp)).trans p10.keep (by simp <;> omega)).ext n11.keep).trans k12' (by simp <;> omega), _, t9, r2.bind (r3.bind (r4.bind (r5.bind (r7.bind (r8.bind (r9.bind (Run.ret _ _))))))), (((q9.keep p10.keep (by simp <;> omega)).ext n11.keep)).keep k12' (by simp <;> omega), ?_⟩
  rw [← e]
  obtain ⟨S12, F12⟩ := FsAt.fresh (ok := fun b => fresh w b ∧ b ≠ w.heap.size) (L := [[.int .i64 3, AM s, .int .i64 n, .int .i64 0, .slice none 0 0]]) n11 (FsAt.one (FAt.leaf _ w10 3 s n 0) rfl) (by simp only [fresh]; omega) (by simp)
  exact ((FAt.node 4 [] 0 0 S12 F12).keep k12' (by rintro b ⟨_, hb⟩; simpa using hb)).mono fun b hb => hb.1
 | false =>
  repeat' first | refine nx rfl ?_ | refine nf rfl ?_
  (refine AA ?_ <;> refine AY rfl (by assumption) (by rfl) ?_)
  refine BZ rfl rfl (FAt.leaf (fresh w) w8 3 s 1 0) b8 rfl (fun w9 cs e hcs k9 z9 b9 => ?_)
  repeat' first | refine nx rfl ?_ | fail
  refine Az rfl rfl hcs b9.cells ⟨k18.trans k9 (by simp <;> omega), _, t8, r2.bind (r3.bind (r4.bind (r5.bind (r7.bind (r8.bind (Run.ret _ _)))))), q8.keep k9 (by simp <;> omega), ?_⟩
  rw [← e]
  exact FAt.leaf _ _ _ _ _ _
end Go.Proofs.YtfcgdbmoncnibaaGreatDoor
namespace Go.Proofs.YtfcgdbmoncnibaaGreatDoor
open Go.RowKit
set_option linter.unusedVariables false
variable {mk : Prop} [MK mk]
theorem take_inv {tab : List (List UInt8 × Opr)} {ts ts' : List Tok} {o : Option Opr} (h : Run (takeG tab) ts (.ok (o, ts'))) : (∃ p, o = some p ∧ ts'.length + 1 = ts.length) ∨ (o = none ∧ ts' = ts) := by
 cases ts with
 | nil =>
  have e := h.det (Run.look (Run.ret _ _))
  cases e; exact .inr ⟨rfl, rfl⟩
 | cons x l =>
  have hr : Run (takeG tab) (x :: l) (match tab.lookup x.text with | some p => .ok (some p, l) | none => .ok (none, x :: l)) := by
   refine Run.look ?_
   show Run (match tab.lookup x.text with | some p => .next (.ret (some p)) | none => .ret none) _ _
   cases tab.lookup x.text with
   | none => exact Run.ret _ _
   | some p => exact Run.next (Run.ret _ _)
  have e := h.det hr
  cases hl : tab.lookup x.text with
  | none => rw [hl] at e; cases e; exact .inr ⟨rfl, rfl⟩
  | some p => rw [hl] at e; cases e; exact .inl ⟨p, rfl, rfl⟩
theorem unary_ok (E : Env) (N : Nat) (hP : B8 E N 173 (body .primary)) (hU : ∀ M, M < N → B8 E M 164 (body .unary)) : B8 E N 164 (body .unary) := by
 intro w ts h hN
 have hsl := h.st.slt
 unfold PDo
 refine Ao Tryz.func164 rfl Tryz.ntmps164 (Nat.le_of_ble_eq_true rfl) (by kernel_rfl) ?_
 repeat' first | refine nx rfl ?_ | fail
 (refine AA ?_)
 refine Au (fun w1 n1 => ?_)
 have b1 : Blk w1 w.heap.size 24 CL := n1.blk
 have z1 := n1.size
 have h1 := h.ext n1.keep
 have k1 : Keep [E.s] w w1 := n1.keep.any
 obtain ⟨ta, tc, hb1, _⟩ := h1.st.blk
 have hlt := h1.st.lt
 repeat' first | refine nx rfl ?_ | fail
 (refine AA (AO rfl (AO rfl (AH rfl (AD rfl ?_)))) <;> refine AG rfl (Blk.cell (by assumption) (by rfl)) ?_)
 refine AS (take_ok E w1 ts E.mp prefixT h1.st h1.st.pre (by omega)) rfl ?_
 rintro v w2 ⟨k2, o, t2, rfl, r2, q2⟩
 have h2 := h1.next k2 q2
 have b2 := b1.keep k2 (by simp <;> omega)
 have k12 := k1.trans k2 (by simp)
 have z2 := k2.size
 refine Bj rfl (Ai rfl rfl (Ai rfl rfl ?_))
 refine A6 (cs := takeV o) rfl rfl (by rfl) (oneC_opr _) (fun w3 n3 => ?_)
 have h3 := h2.ext n3.keep
 have b3 := b2.keep n3.keep (by simp)
 have z3 := n3.size
 have e3 := n3.blk
 have k13 := k12.ext n3.keep
 ((refine AC ?_; refine AB rfl ?_))
 repeat' first | refine nx rfl ?_ | fail
 rcases take_inv r2 with ⟨q, rfl, hl2⟩ | ⟨rfl, rfl⟩
 ·replace e3 : Blk w3 w2.heap.size 191 [.int .i64 q.op, .int .i64 q.indexed, .int .i64 q.val] := e3
  refine AA (AB rfl (A7 rfl ?_))
  repeat' first | refine nx rfl ?_ | refine nf rfl ?_
  (refine AA (AD rfl ?_) <;> refine AG rfl (Blk.cell (by assumption) (by rfl)) ?_ <;> refine AD rfl ?_ <;> refine AG rfl (Blk.cell (by assumption) (by rfl)) ?_ <;> refine Ae (by rfl) (by rfl) ?_)
  refine A6 (cs := [.int .i64 q.op, AM [], .int .i64 q.val, .int .i64 0, .slice none 0 0]) rfl rfl (by rfl) (oneC_fml _ _ _ _ _ _ _ rfl rfl rfl rfl) (fun w4 n4 => ?_)
  have h4 := h3.ext n4.keep
  have b4 := b3.keep n4.keep (by simp)
  have e4 := e3.keep n4.keep (by simp)
  have z4 := n4.size
  have g4 := n4.blk
  have k14 := k13.ext n4.keep
  repeat' first | refine nx rfl ?_ | fail
  (refine AA (AO rfl ?_) <;> refine AY rfl (by assumption) (by rfl) ?_)
  refine AZ (index_ok E w4 t2 q h4.st) rfl ?_ ?_
  rotate_left
  ·rintro ch wq ⟨kq, lq, rq, rfl⟩
   repeat' first | refine nx rfl ?_ | fail
   exact AX ⟨k14.trans kq (by simp), lq, r2.bind (Run.bindE rq), rfl⟩
  rintro v w5 ⟨k5, n, t5, r5, q5, rfl, hn0, hn1⟩
  have h5 := h4.next k5 q5
  have b5 := b4.keep k5 (by simp <;> omega)
  have e5 := e4.keep k5 (by simp <;> omega)
  have g5 := g4.keep k5 (by simp <;> omega)
  have k15 := k14.trans k5 (by simp)
  have z5 := k5.size
  have l5 : t5.length ≤ t2.length := (show t5 <:+ t2 from r5.suffix).length_le
  refine Bj rfl (Ai rfl rfl (Ai rfl rfl (AC (AI rfl (AC (AB rfl ?_))))))
  repeat' first | refine nx rfl ?_ | fail
  refine AA (AB rfl (AE ?_))
  cases n with
  | none =>
   repeat' first | refine nx rfl ?_ | refine nf rfl ?_
   refine AA (AO rfl ?_)
   refine AZ (hU t5.length (by omega) w5 t5 h5 (Nat.le_refl _)) rfl ?_ ?_
   rotate_left
   ·rintro ch wq ⟨kq, lq, rq, rfl⟩
    repeat' first | refine nx rfl ?_ | fail
    exact AX ⟨k15.trans kq (by simp), lq, r2.bind (r5.bind (Run.callE rq)), rfl⟩
   rintro v w7 ⟨k7, a, t7, r7, q7, f7⟩
   have h7 := (h5).next k7 q7
   have b7 := (b5).keep k7 (by simp <;> omega)
   have g7 := (g5).keep k7 (by simp <;> omega)
   have k17 := (k15).trans k7 (by simp)
   have z7 := k7.size
   obtain ⟨cs, rfl, hcs, hone⟩ := f7.cells
   obtain ⟨c0, c1, c2, c3, c4, rfl⟩ : ∃ c0 c1 c2 c3 c4, cs = [c0, c1, c2, c3, c4] := by
    match cs, hcs with
    | [c0, c1, c2, c3, c4], _ => exact ⟨_, _, _, _, _, rfl⟩
   refine AT (out := [c0, c1, c2, c3, c4]) rfl (by omega) (by rw [made5]; rfl) (fun w8 n8 => ?_)
   have z8 := n8.size
   have b8 := b7.keep n8.keep (by simp)
   have g8 := g7.keep n8.keep (by simp)
   obtain ⟨S8, F8⟩ := FsAt.fresh (ok := fun b => w5.heap.size ≤ b) (L := [[c0, c1, c2, c3, c4]]) n8 (FsAt.one (f7.mono fun b hb => by simp only [fresh] at hb ⊢; omega) rfl) (by omega) (by simp)
   (refine AD rfl ?_)
   refine Am rfl rfl rfl g8 (by simp) (fun w9 p9 => ?_)
   have b9 := b8.keep p9.keep (by simp <;> omega)
   have g9 := p9.blk
   have z9 := p9.size
   have f9 := (FAt.node (q.op) [] q.val (0) S8 F8).keep p9.keep (by intro b hb; simp at hb ⊢; omega)
   repeat' first | refine nx rfl ?_ | fail
   (refine AA ?_; refine AY rfl g9 rfl ?_)
   refine BZ rfl rfl f9 b9 rfl (fun w10 cs' e hcs' k10 z10 b10 => ?_)
   repeat' first | refine nx rfl ?_ | fail
   refine Az rfl rfl hcs' b10.cells ⟨((k17.ext n8.keep).trans p9.keep (by simp <;> omega)).trans k10 (by simp <;> omega), _, t7, r2.bind (r5.bind (Run.call r7 (Run.ret _ _))), ((q7.ext n8.keep).keep p9.keep (by simp <;> omega)).keep k10 (by simp <;> omega), ?_⟩
   rw [← e]
   show FAt _ _ _ (⟨q.op, [], q.val, 0, [a]⟩ : Fml)
   exact (f9.keep k10 (by intro b hb; simp at hb ⊢; omega)).mono (fun b hb => by simp only [fresh] at hb ⊢; omega)
  | some n =>
   repeat' first | refine nx rfl ?_ | fail
   (refine AA (AD rfl ?_) <;> refine AG rfl (Blk.cell (by assumption) (by rfl)) ?_ <;> refine AI rfl (AD rfl ?_))
   refine Am rfl rfl rfl g5 (by simp) (fun w6 p6 => ?_)
   (refine AD rfl ?_)
   refine Am rfl rfl rfl p6.blk (by simp) (fun w6' p6' => ?_)
   have g6 : Blk w6' w3.heap.size 24 [.int .i64 q.indexed, AM [], .int .i64 q.val, .int .i64 n, .slice none 0 0] := p6'.blk
   have h6 := (h5.keep p6.keep (by simp <;> omega)).keep p6'.keep (by simp <;> omega)
   have b6 := (b5.keep p6.keep (by simp <;> omega)).keep p6'.keep (by simp <;> omega)
   have k16 := (k15.trans p6.keep (by simp <;> omega)).trans p6'.keep (by simp <;> omega)
   have z6 : w6'.heap.size = w5.heap.size := by rw [p6'.size, p6.size]
   repeat' first | refine nx rfl ?_ | fail
   refine AA (AO rfl ?_)
   refine AZ (hU t5.length (by omega) w6' t5 h6 (Nat.le_refl _)) rfl ?_ ?_
   rotate_left
   ·rintro ch wq ⟨kq, lq, rq, rfl⟩
    repeat' first | refine nx rfl ?_ | fail
    exact AX ⟨k16.trans kq (by simp), lq, r2.bind (r5.bind (Run.callE rq)), rfl⟩
   rintro v w7 ⟨k7, a, t7, r7, q7, f7⟩
   have h7 := (h6).next k7 q7
   have b7 := (b6).keep k7 (by simp <;> omega)
   have g7 := (g6).keep k7 (by simp <;> omega)
   have k17 := (k16).trans k7 (by simp)
   have z7 := k7.size
   obtain ⟨cs, rfl, hcs, hone⟩ := f7.cells
   obtain ⟨c0, c1, c2, c3, c4, rfl⟩ : ∃ c0 c1 c2 c3 c4, cs = [c0, c1, c2, c3, c4] := by
    match cs, hcs with
    | [c0, c1, c2, c3, c4], _ => exact ⟨_, _, _, _, _, rfl⟩
   refine AT (out := [c0, c1, c2, c3, c4]) rfl (by omega) (by rw [made5]; rfl) (fun w8 n8 => ?_)
   have z8 := n8.size
   have b8 := b7.keep n8.keep (by simp)
   have g8 := g7.keep n8.keep (by simp)
   obtain ⟨S8, F8⟩ := FsAt.fresh (ok := fun b => w5.heap.size ≤ b) (L := [[c0, c1, c2, c3, c4]]) n8 (FsAt.one (f7.mono fun b hb => by simp only [fresh] at hb ⊢; omega) rfl) (by omega) (by simp)
   (refine AD rfl ?_)
   refine Am rfl rfl rfl g8 (by simp) (fun w9 p9 => ?_)
   have b9 := b8.keep p9.keep (by simp <;> omega)
   have g9 := p9.blk
   have z9 := p9.size
   have f9 := (FAt.node (q.indexed) [] q.val (n) S8 F8).keep p9.keep (by intro b hb; simp at hb ⊢; omega)
   repeat' first | refine nx rfl ?_ | fail
   (refine AA ?_; refine AY rfl g9 rfl ?_)
   refine BZ rfl rfl f9 b9 rfl (fun w10 cs' e hcs' k10 z10 b10 => ?_)
   repeat' first | refine nx rfl ?_ | fail
   refine Az rfl rfl hcs' b10.cells ⟨((k17.ext n8.keep).trans p9.keep (by simp <;> omega)).trans k10 (by simp <;> omega), _, t7, r2.bind (r5.bind (Run.call r7 (Run.ret _ _))), ((q7.ext n8.keep).keep p9.keep (by simp <;> omega)).keep k10 (by simp <;> omega), ?_⟩
   rw [← e]
   show FAt _ _ _ (⟨q.indexed, [], q.val, n, [a]⟩ : Fml)
   exact (f9.keep k10 (by intro b hb; simp at hb ⊢; omega)).mono (fun b hb => by simp only [fresh] at hb ⊢; omega)
 ·refine AA (AB rfl (A7 rfl ?_))
  repeat' first | refine nx rfl ?_ | fail
  refine AA (AO rfl ?_)
  refine AZ (hP w3 _ h3 hN) rfl ?_ ?_
  rotate_left
  ·rintro ch wq ⟨kq, lq, rq, rfl⟩
   repeat' first | refine nx rfl ?_ | fail
   exact AX ⟨k13.trans kq (by simp), lq, r2.bind (Run.callE rq), rfl⟩
  rintro v w4 ⟨k4, f, t4, r4, q4, f4⟩
  have b4 := b3.keep k4 (by simp <;> omega)
  have z4 := k4.size
  refine BZ rfl rfl f4 b4 rfl (fun w5 cs e hcs k5 z5 b5 => ?_)
  repeat' first | refine nx rfl ?_ | fail
  refine Az rfl rfl hcs b5.cells ⟨(k13.trans k4 (by simp)).trans k5 (by simp <;> omega), f, t4, r2.bind (Run.call r4 (Run.ret _ _)), q4.keep k5 (by simp <;> omega), ?_⟩
  rw [← e]
  exact (f4.keep k5 (by intro b hb; simp [fresh] at hb ⊢; omega)).mono (fun b hb => by simp only [fresh] at hb ⊢; omega)
end Go.Proofs.YtfcgdbmoncnibaaGreatDoor
namespace Go.Proofs.YtfcgdbmoncnibaaGreatDoor
open Go.RowKit
set_option linter.unusedVariables false
variable {mk : Prop} [MK mk]
theorem CF {cs : List Value} (h : cs.length = 5) : ∃ c0 c1 c2 c3 c4, cs = [c0, c1, c2, c3, c4] := by
 match cs, h with
 | [c0, c1, c2, c3, c4], _ => exact ⟨_, _, _, _, _, rfl⟩
theorem until_ok (E : Env) (N : Nat) (hP : B8 E N 164 (body .unary)) (hU : ∀ M, M < N → B8 E M 158 (body .untilN)) : B8 E N 158 (body .untilN) := by
 intro w ts h hN
 have hsl := h.st.slt
 unfold PDo
 refine Ao Tryz.func158 rfl Tryz.ntmps158 (Nat.le_of_ble_eq_true rfl) (by kernel_rfl) ?_
 repeat' first | refine nx rfl ?_ | fail
 (refine AA ?_)
 refine Au (fun w1 n1 => ?_)
 have b1 : Blk w1 w.heap.size 24 CL := n1.blk
 have z1 := n1.size
 have h1 := h.ext n1.keep
 have k1 : Keep [E.s] w w1 := n1.keep.any
 repeat' first | refine nx rfl ?_ | fail
 refine AA (AO rfl ?_)
 refine AZ (hP w1 ts h1 hN) rfl ?_ ?_
 rotate_left
 ·rintro ch wq ⟨kq, lq, rq, rfl⟩
  repeat' first | refine nx rfl ?_ | fail
  exact AX ⟨k1.trans kq (by simp), lq, Run.callE rq, rfl⟩
 rintro v w2 ⟨k2, a1, t2, r2, q2, f2⟩
 have h2 := h1.next k2 q2
 have b2 := b1.keep k2 (by simp <;> omega)
 have k12 := k1.trans k2 (by simp)
 have z2 := k2.size
 have l2 : t2.length ≤ ts.length := (show t2 <:+ ts from r2.suffix).length_le
 replace f2 := f2.lt
 obtain ⟨cs, rfl, hcs, hone⟩ := f2.cells
 obtain ⟨c0, c1, c2, c3, c4, rfl⟩ := CF hcs
 refine A6 (cs := [c0, c1, c2, c3, c4]) rfl rfl (by rfl) hone (fun w3 n3 => ?_)
 have h3 := h2.ext n3.keep
 have b3 := b2.keep n3.keep (by simp)
 have z3 := n3.size
 have e3 := n3.blk
 have f3 := f2.new n3
 have k13 := k12.ext n3.keep
 obtain ⟨ta, tc, hb3, _⟩ := h3.st.blk
 have hlt := h3.st.lt
 repeat' first | refine nx rfl ?_ | fail
 (refine AA (AO rfl (AO rfl (AH rfl (AD rfl ?_)))) <;> refine AG rfl (Blk.cell (by assumption) (by rfl)) ?_)
 refine AS (take_ok E w3 t2 E.mi infixT h3.st h3.st.inf (by omega)) rfl ?_
 rintro v w4 ⟨k4, o, t4, rfl, r4, q4⟩
 have h4 := h3.next k4 q4
 have b4 := b3.keep k4 (by simp <;> omega)
 have e4 := e3.keep k4 (by simp <;> omega)
 have f4 := f3.keep k4 (by intro b hb; simp [fresh] at hb ⊢; omega)
 have k14 := k13.trans k4 (by simp)
 have z4 := k4.size
 refine Bj rfl (Ai rfl rfl (Ai rfl rfl ?_))
 refine A6 (cs := takeV o) rfl rfl (by rfl) (oneC_opr _) (fun w5 n5 => ?_)
 have h5 := h4.ext n5.keep
 have b5 := b4.keep n5.keep (by simp)
 have e5 := e4.keep n5.keep (by simp)
 have f5 := f4.new n5
 have z5 := n5.size
 have g5 := n5.blk
 have k15 := k14.ext n5.keep
 ((refine AC ?_; refine AB rfl ?_))
 repeat' first | refine nx rfl ?_ | fail
 rcases take_inv r4 with ⟨q, rfl, hl4⟩ | ⟨rfl, rfl⟩
 ·replace g5 : Blk w5 w4.heap.size 191 [.int .i64 q.op, .int .i64 q.indexed, .int .i64 q.val] := g5
  refine AA (AB rfl (A7 rfl ?_))
  repeat' first | refine nx rfl ?_ | refine nf rfl ?_
  (refine AA (AD rfl ?_) <;> refine AG rfl (Blk.cell (by assumption) (by rfl)) ?_ <;> refine AD rfl ?_ <;> refine AG rfl (Blk.cell (by assumption) (by rfl)) ?_ <;> refine Ae (by rfl) (by rfl) ?_)
  refine A6 (cs := [.int .i64 q.op, AM [], .int .i64 q.val, .int .i64 0, .slice none 0 0]) rfl rfl (by rfl) (oneC_fml _ _ _ _ _ _ _ rfl rfl rfl rfl) (fun w6 n6 => ?_)
  have h6 := h5.ext n6.keep
  have b6 := b5.keep n6.keep (by simp)
  have e6 := e5.keep n6.keep (by simp)
  have f6 := f5.new n6
  have g6 := g5.keep n6.keep (by simp)
  have z6 := n6.size
  have u6 := n6.blk
  have k16 := k15.ext n6.keep
  repeat' first | refine nx rfl ?_ | fail
  (refine AA (AO rfl ?_) <;> refine AY rfl (by assumption) (by rfl) ?_)
  refine AZ (index_ok E w6 t4 q h6.st) rfl ?_ ?_
  rotate_left
  ·rintro ch wq ⟨kq, lq, rq, rfl⟩
   repeat' first | refine nx rfl ?_ | fail
   exact AX ⟨k16.trans kq (by simp), lq, Run.call r2 (r4.bind (Run.bindE rq)), rfl⟩
  rintro v wi ⟨ki, n, t5, r5, qi, rfl, hn0, hn1⟩
  have hi := h6.next ki qi
  have bi := b6.keep ki (by simp <;> omega)
  have ei := e6.keep ki (by simp <;> omega)
  have fi := f6.keep ki (by intro b hb; simp [fresh] at hb ⊢; omega)
  have ui := u6.keep ki (by simp <;> omega)
  have kwi := k16.trans ki (by simp)
  have zi := ki.size
  have l5 : t5.length ≤ t4.length := (show t5 <:+ t4 from r5.suffix).length_le
  refine Bj rfl (Ai rfl rfl (Ai rfl rfl (AC (AI rfl (AC (AB rfl ?_))))))
  repeat' first | refine nx rfl ?_ | fail
  refine AA (AB rfl (AE ?_))
  cases n with
  | none =>
   repeat' first | refine nx rfl ?_ | refine nf rfl ?_
   refine Bg (.read 0 (.read 1 (.alt 2 (.alt 3 (.read 4 (.alt 5 .done .stop)) .stop) .stop))) BE (by kernel_rfl) (by repeat (first | exact BD | refine A5 ?_)) (fun wd kd ed => ⟨fun W => Keep [E.s, w5.heap.size] wd W, ?_, ?_⟩)
   ·exact Keep.refl _ _
   have hd := (hi).ext kd
   have bd := (bi).keep kd (by simp)
   have gd := (ui).keep kd (by simp)
   have ed3 := (ei).keep kd (by simp)
   have fd3 := (fi).ext kd
   have zd : wd.heap.size = (wi).heap.size := by rw [ed]
   have fc : ∀ W, Keep [E.s, w5.heap.size] wd W → Cells W w2.heap.size 0 [c0, c1, c2, c3, c4] := fun W hW => (ed3.keep hW (by simp <;> omega)).cells
   ((apply D_R rfl rfl; (intro W hW; refine AV rfl (by rfl) (fc W hW) ?_; exact AE ⟨rfl, rfl, rfl⟩)) <;> (apply D_R rfl rfl; (intro W hW; refine AO rfl ?_; exact AE ⟨rfl, rfl, rfl⟩)))
   refine D_E rfl ?_
   refine AZ (hU t5.length (by omega) wd t5 hd (Nat.le_refl _)) rfl ?_ ?_
   rotate_left
   ·rintro ch wq ⟨kq, lq, rq, rfl⟩
    repeat' first | refine nx rfl ?_ | fail
    exact AX ⟨((kwi).ext kd).trans kq (by simp), lq, Run.call r2 (r4.bind (r5.bind (Run.callE rq))), rfl⟩
   rintro v w7 ⟨k7, a2, t7, r7, q7, f7⟩
   have h7 := hd.next k7 q7
   have b7 := bd.keep k7 (by simp <;> omega)
   have g7 := gd.keep k7 (by simp <;> omega)
   have f37 := fd3.keep k7 (by intro b hb; simp [fresh] at hb ⊢; omega)
   have k17 := ((kwi).ext kd).trans k7 (by simp)
   have z7 := k7.size
   obtain ⟨ds, rfl, hds, hone2⟩ := f7.cells
   obtain ⟨d0, d1, d2, d3, d4, rfl⟩ := CF hds
   refine AE ⟨fun W => Keep [E.s, w5.heap.size] w7 W, fun W hW => (k7.mono (by simp)).trans hW (by simp), Keep.refl _ _, ?_⟩
   refine D_E rfl ?_
   refine AT (out := [c0, c1, c2, c3, c4, d0, d1, d2, d3, d4]) rfl (by omega) (by rw [made10]; rfl) (fun w8 n8 => ?_)
   have z8 := n8.size
   have b8 := b7.keep n8.keep (by simp)
   have g8 := g7.keep n8.keep (by simp)
   obtain ⟨S8, F8⟩ := FsAt.fresh (ok := fun b => w.heap.size < b ∧ b ≠ w5.heap.size) (L := [[c0, c1, c2, c3, c4], [d0, d1, d2, d3, d4]]) n8 (FsAt.two (f37.mono fun b hb => by simp only [fresh] at hb ⊢; omega) rfl (f7.mono fun b hb => by simp only [fresh] at hb ⊢; omega) rfl) (by omega) (by simp)
   refine AE ⟨fun W => Keep [E.s, w5.heap.size] w8 W, fun W hW => n8.keep.any.trans hW (by simp), Keep.refl _ _, ?_⟩
   ((apply D_R rfl rfl; (intro W hW; refine AD rfl ?_; exact AE ⟨rfl, rfl, rfl⟩)))
   refine D_E rfl ?_
   refine Am rfl rfl rfl g8 (by simp) (fun w9 p9 => ?_)
   have b9 := b8.keep p9.keep (by simp <;> omega)
   have g9 := p9.blk
   have z9 := p9.size
   have f9 := (FAt.node q.op [] (q.val) 0 S8 F8).keep p9.keep (by intro b hb; simp at hb ⊢; omega)
   refine AE ⟨fun W => W = w9, fun W hW => hW ▸ p9.keep.mono (by simp), rfl, ?_⟩
   refine A3 ?_
   repeat' first | refine nx rfl ?_ | fail
   (refine AA ?_; refine AY rfl g9 rfl ?_)
   refine BZ rfl rfl f9 b9 rfl (fun w10 cs' e hcs' k10 z10 b10 => ?_)
   repeat' first | refine nx rfl ?_ | fail
   refine Az rfl rfl hcs' b10.cells ⟨((k17.ext n8.keep).trans p9.keep (by simp <;> omega)).trans k10 (by simp <;> omega), ⟨q.op, [], q.val, 0, [a1, a2]⟩, t7, Run.call r2 (r4.bind (r5.bind (Run.call r7 (Run.ret _ _)))), ((q7.ext n8.keep).keep p9.keep (by simp <;> omega)).keep k10 (by simp <;> omega), ?_⟩
   rw [← e]
   exact (f9.keep k10 (by intro b hb; simp at hb ⊢; omega)).mono (fun b hb => by simp only [fresh] at hb ⊢; omega)
  | some n =>
   repeat' first | refine nx rfl ?_ | fail
   refine AA (AI rfl (AD rfl ?_))
   refine Am rfl rfl rfl ui (by simp) (fun wj pj => ?_)
   have uj : Blk wj w5.heap.size 24 [.int .i64 q.op, AM [], .int .i64 n, .int .i64 0, .slice none 0 0] := pj.blk
   have hj := hi.keep pj.keep (by simp <;> omega)
   have bj := bi.keep pj.keep (by simp <;> omega)
   have ej := ei.keep pj.keep (by simp <;> omega)
   have fj := fi.keep pj.keep (by intro b hb; simp [fresh] at hb ⊢; omega)
   have kwj := kwi.trans pj.keep (by simp <;> omega)
   have zj := pj.size
   repeat' first | refine nx rfl ?_ | fail
   refine Bg (.read 0 (.read 1 (.alt 2 (.alt 3 (.read 4 (.alt 5 .done .stop)) .stop) .stop))) BE (by kernel_rfl) (by repeat (first | exact BD | refine A5 ?_)) (fun wd kd ed => ⟨fun W => Keep [E.s, w5.heap.size] wd W, ?_, ?_⟩)
   ·exact Keep.refl _ _
   have hd := (hj).ext kd
   have bd := (bj).keep kd (by simp)
   have gd := (uj).keep kd (by simp)
   have ed3 := (ej).keep kd (by simp)
   have fd3 := (fj).ext kd
   have zd : wd.heap.size = (wj).heap.size := by rw [ed]
   have fc : ∀ W, Keep [E.s, w5.heap.size] wd W → Cells W w2.heap.size 0 [c0, c1, c2, c3, c4] := fun W hW => (ed3.keep hW (by simp <;> omega)).cells
   ((apply D_R rfl rfl; (intro W hW; refine AV rfl (by rfl) (fc W hW) ?_; exact AE ⟨rfl, rfl, rfl⟩)) <;> (apply D_R rfl rfl; (intro W hW; refine AO rfl ?_; exact AE ⟨rfl, rfl, rfl⟩)))
   refine D_E rfl ?_
   refine AZ (hU t5.length (by omega) wd t5 hd (Nat.le_refl _)) rfl ?_ ?_
   rotate_left
   ·rintro ch wq ⟨kq, lq, rq, rfl⟩
    repeat' first | refine nx rfl ?_ | fail
    exact AX ⟨((kwj).ext kd).trans kq (by simp), lq, Run.call r2 (r4.bind (r5.bind (Run.callE rq))), rfl⟩
   rintro v w7 ⟨k7, a2, t7, r7, q7, f7⟩
   have h7 := hd.next k7 q7
   have b7 := bd.keep k7 (by simp <;> omega)
   have g7 := gd.keep k7 (by simp <;> omega)
   have f37 := fd3.keep k7 (by intro b hb; simp [fresh] at hb ⊢; omega)
   have k17 := ((kwj).ext kd).trans k7 (by simp)
   have z7 := k7.size
   obtain ⟨ds, rfl, hds, hone2⟩ := f7.cells
   obtain ⟨d0, d1, d2, d3, d4, rfl⟩ := CF hds
   refine AE ⟨fun W => Keep [E.s, w5.heap.size] w7 W, fun W hW => (k7.mono (by simp)).trans hW (by simp), Keep.refl _ _, ?_⟩
   refine D_E rfl ?_
   refine AT (out := [c0, c1, c2, c3, c4, d0, d1, d2, d3, d4]) rfl (by omega) (by rw [made10]; rfl) (fun w8 n8 => ?_)
   have z8 := n8.size
   have b8 := b7.keep n8.keep (by simp)
   have g8 := g7.keep n8.keep (by simp)
   obtain ⟨S8, F8⟩ := FsAt.fresh (ok := fun b => w.heap.size < b ∧ b ≠ w5.heap.size) (L := [[c0, c1, c2, c3, c4], [d0, d1, d2, d3, d4]]) n8 (FsAt.two (f37.mono fun b hb => by simp only [fresh] at hb ⊢; omega) rfl (f7.mono fun b hb => by simp only [fresh] at hb ⊢; omega) rfl) (by omega) (by simp)
   refine AE ⟨fun W => Keep [E.s, w5.heap.size] w8 W, fun W hW => n8.keep.any.trans hW (by simp), Keep.refl _ _, ?_⟩
   ((apply D_R rfl rfl; (intro W hW; refine AD rfl ?_; exact AE ⟨rfl, rfl, rfl⟩)))
   refine D_E rfl ?_
   refine Am rfl rfl rfl g8 (by simp) (fun w9 p9 => ?_)
   have b9 := b8.keep p9.keep (by simp <;> omega)
   have g9 := p9.blk
   have z9 := p9.size
   have f9 := (FAt.node q.op [] (n) 0 S8 F8).keep p9.keep (by intro b hb; simp at hb ⊢; omega)
   refine AE ⟨fun W => W = w9, fun W hW => hW ▸ p9.keep.mono (by simp), rfl, ?_⟩
   refine A3 ?_
   repeat' first | refine nx rfl ?_ | fail
   (refine AA ?_; refine AY rfl g9 rfl ?_)
   refine BZ rfl rfl f9 b9 rfl (fun w10 cs' e hcs' k10 z10 b10 => ?_)
   repeat' first | refine nx rfl ?_ | fail
   refine Az rfl rfl hcs' b10.cells ⟨((k17.ext n8.keep).trans p9.keep (by simp <;> omega)).trans k10 (by simp <;> omega), ⟨q.op, [], n, 0, [a1, a2]⟩, t7, Run.call r2 (r4.bind (r5.bind (Run.call r7 (Run.ret _ _)))), ((q7.ext n8.keep).keep p9.keep (by simp <;> omega)).keep k10 (by simp <;> omega), ?_⟩
   rw [← e]
   exact (f9.keep k10 (by intro b hb; simp at hb ⊢; omega)).mono (fun b hb => by simp only [fresh] at hb ⊢; omega)
 ·refine AA (AB rfl (A7 rfl ?_))
  repeat' first | refine nx rfl ?_ | fail
  (refine AA ?_; refine AY rfl e5 rfl ?_)
  refine BZ rfl rfl f5 b5 rfl (fun w6 cs e hcs k6 z6 b6 => ?_)
  repeat' first | refine nx rfl ?_ | fail
  refine Az rfl rfl hcs b6.cells ⟨k15.trans k6 (by simp <;> omega), a1, _, Run.call r2 (r4.bind (Run.ret _ _)), h5.st.keep k6 (by simp <;> omega), ?_⟩
  rw [← e]
  exact (f5.keep k6 (by intro b hb; simp [fresh] at hb ⊢; omega)).mono (fun b hb => by simp only [fresh] at hb ⊢; omega)
theorem chainP_and : ChainP [38] (body .untilN) (body .andL) where
 done h := by
  rcases accepts_inv h with ⟨e, _⟩ | ⟨_, _, _⟩
  ·cases e
  ·exact h.bind (Run.ret _ _)
 more h h1 h2 := h.bind (Run.call h1 (Run.call h2 (Run.ret _ _)))
 err1 h h1 := h.bind (Run.callE h1)
 err2 h h1 h2 := h.bind (Run.call h1 (Run.callE h2))
theorem chainP_or : ChainP [124] (body .andN) (body .orL) where
 done h := by
  rcases accepts_inv h with ⟨e, _⟩ | ⟨_, _, _⟩
  ·cases e
  ·exact h.bind (Run.ret _ _)
 more h h1 h2 := h.bind (Run.call h1 (Run.call h2 (Run.ret _ _)))
 err1 h h1 := h.bind (Run.callE h1)
 err2 h h1 h2 := h.bind (Run.call h1 (Run.callE h2))
theorem and_ok (E : Env) (N : Nat) (hP : B8 E N 158 (body .untilN)) : B8 E N 144 (body .andN) := by
 intro w ts h hN
 have hsl := h.st.slt
 unfold PDo
 refine Ao Tryz.func144 rfl Tryz.ntmps144 (Nat.le_of_ble_eq_true rfl) (by kernel_rfl) ?_
 repeat' first | refine nx rfl ?_ | fail
 (refine AA ?_)
 refine Au (fun w1 n1 => ?_)
 have b1 : Blk w1 w.heap.size 24 CL := n1.blk
 have z1 := n1.size
 have h1 := h.ext n1.keep
 have k1 : Keep [E.s] w w1 := n1.keep.any
 repeat' first | refine nx rfl ?_ | fail
 refine AA (AO rfl (AO rfl (A4 rfl rfl ?_)))
 refine AZ (chain_ok E N 158 [38] (body .untilN) (body .andL) chainP_and hP w1 ts h1 hN) rfl ?_ ?_
 rotate_left
 ·rintro ch wq ⟨kq, lq, rq, rfl⟩
  repeat' first | refine nx rfl ?_ | fail
  refine AX ⟨k1.trans kq (by simp), lq, ?_, rfl⟩
  rcases rq.bind_inv with ⟨a, l1, g1, g2⟩ | ⟨e, g1, g2⟩
  ·rcases g2.bind_inv with ⟨l, l2, g3, g4⟩ | ⟨e, g3, g4⟩
   ·cases g4.det (Run.ret _ _)
   ·cases g4; exact Run.call g1 (Run.callE g3)
  ·cases g2; exact Run.callE g1
 rintro v w2 ⟨k2, l, t2, r2, q2, sa, sc, L, rfl, hne, S2, F2⟩
 have h2 := h1.next k2 q2
 have b2 := b1.keep k2 (by simp <;> omega)
 have k12 := k1.trans k2 (by simp)
 have z2 := k2.size
 refine AS (node_ok w2 5 (fresh w1) sa sc L l S2 F2 hne) rfl ?_
 rintro v w3 ⟨k3, f3⟩
 have b3 := b2.keep k3 (by simp)
 refine BZ rfl rfl f3 b3 rfl (fun w4 cs e hcs k4 z4 b4 => ?_)
 repeat' first | refine nx rfl ?_ | fail
 refine Az rfl rfl hcs b4.cells ⟨(k12.ext k3).trans k4 (by simp <;> omega), nodeF 5 l, t2, ?_, (q2.ext k3).keep k4 (by simp <;> omega), ?_⟩
 ·rcases r2.bind_inv with ⟨a, l1, g1, g2⟩ | ⟨e, g1, g2⟩
  ·rcases g2.bind_inv with ⟨l, l2, g3, g4⟩ | ⟨e, g3, g4⟩
   ·cases g4.det (Run.ret _ _); exact Run.call g1 (Run.call g3 (Run.ret _ _))
   ·cases g4
  ·cases g2
 ·rw [← e]
  exact (f3.keep k4 (by intro b hb; simp [fresh] at hb ⊢; omega)).mono (fun b hb => by simp only [fresh] at hb ⊢; omega)
theorem or_ok (E : Env) (N : Nat) (hP : B8 E N 144 (body .andN)) : B8 E N 105 (body .orN) := by
 intro w ts h hN
 have hsl := h.st.slt
 unfold PDo
 refine Ao Tryz.func105 rfl Tryz.ntmps105 (Nat.le_of_ble_eq_true rfl) (by kernel_rfl) ?_
 repeat' first | refine nx rfl ?_ | fail
 (refine AA ?_)
 refine Au (fun w1 n1 => ?_)
 have b1 : Blk w1 w.heap.size 24 CL := n1.blk
 have z1 := n1.size
 have h1 := h.ext n1.keep
 have k1 : Keep [E.s] w w1 := n1.keep.any
 repeat' first | refine nx rfl ?_ | fail
 refine AA (AO rfl (AO rfl (A4 rfl rfl ?_)))
 refine AZ (chain_ok E N 144 [124] (body .andN) (body .orL) chainP_or hP w1 ts h1 hN) rfl ?_ ?_
 rotate_left
 ·rintro ch wq ⟨kq, lq, rq, rfl⟩
  repeat' first | refine nx rfl ?_ | fail
  refine AX ⟨k1.trans kq (by simp), lq, ?_, rfl⟩
  rcases rq.bind_inv with ⟨a, l1, g1, g2⟩ | ⟨e, g1, g2⟩
  ·rcases g2.bind_inv with ⟨l, l2, g3, g4⟩ | ⟨e, g3, g4⟩
   ·cases g4.det (Run.ret _ _)
   ·cases g4; exact Run.call g1 (Run.callE g3)
  ·cases g2; exact Run.callE g1
 rintro v w2 ⟨k2, l, t2, r2, q2, sa, sc, L, rfl, hne, S2, F2⟩
 have h2 := h1.next k2 q2
 have b2 := b1.keep k2 (by simp <;> omega)
 have k12 := k1.trans k2 (by simp)
 have z2 := k2.size
 refine AS (node_ok w2 6 (fresh w1) sa sc L l S2 F2 hne) rfl ?_
 rintro v w3 ⟨k3, f3⟩
 have b3 := b2.keep k3 (by simp)
 refine BZ rfl rfl f3 b3 rfl (fun w4 cs e hcs k4 z4 b4 => ?_)
 repeat' first | refine nx rfl ?_ | fail
 refine Az rfl rfl hcs b4.cells ⟨(k12.ext k3).trans k4 (by simp <;> omega), nodeF 6 l, t2, ?_, (q2.ext k3).keep k4 (by simp <;> omega), ?_⟩
 ·rcases r2.bind_inv with ⟨a, l1, g1, g2⟩ | ⟨e, g1, g2⟩
  ·rcases g2.bind_inv with ⟨l, l2, g3, g4⟩ | ⟨e, g3, g4⟩
   ·cases g4.det (Run.ret _ _); exact Run.call g1 (Run.call g3 (Run.ret _ _))
   ·cases g4
  ·cases g2
 ·rw [← e]
  exact (f3.keep k4 (by intro b hb; simp [fresh] at hb ⊢; omega)).mono (fun b hb => by simp only [fresh] at hb ⊢; omega)
theorem formula_ok (E : Env) (N : Nat) (hP : B8 E N 105 (body .orN)) (hU : ∀ M, M < N → B8 E M 65 (body .formula)) : B8 E N 65 (body .formula) := by
 intro w ts h hN
 have hsl := h.st.slt
 unfold PDo
 refine Ao Tryz.func65 rfl Tryz.ntmps65 (Nat.le_of_ble_eq_true rfl) (by kernel_rfl) ?_
 repeat' first | refine nx rfl ?_ | fail
 (refine AA ?_)
 refine Au (fun w1 n1 => ?_)
 have b1 : Blk w1 w.heap.size 24 CL := n1.blk
 have z1 := n1.size
 have h1 := h.ext n1.keep
 have k1 : Keep [E.s] w w1 := n1.keep.any
 repeat' first | refine nx rfl ?_ | fail
 refine AA (AO rfl ?_)
 refine AZ (hP w1 ts h1 hN) rfl ?_ ?_
 rotate_left
 ·rintro ch wq ⟨kq, lq, rq, rfl⟩
  repeat' first | refine nx rfl ?_ | fail
  exact AX ⟨k1.trans kq (by simp), lq, Run.callE rq, rfl⟩
 rintro v w2 ⟨k2, a1, t2, r2, q2, f2⟩
 have h2 := h1.next k2 q2
 have b2 := b1.keep k2 (by simp <;> omega)
 have k12 := k1.trans k2 (by simp)
 have z2 := k2.size
 have l2 : t2.length ≤ ts.length := (show t2 <:+ ts from r2.suffix).length_le
 replace f2 := f2.lt
 obtain ⟨cs, rfl, hcs, hone⟩ := f2.cells
 obtain ⟨c0, c1, c2, c3, c4, rfl⟩ := CF hcs
 refine A6 (cs := [c0, c1, c2, c3, c4]) rfl rfl (by rfl) hone (fun w3 n3 => ?_)
 have h3 := h2.ext n3.keep
 have b3 := b2.keep n3.keep (by simp)
 have z3 := n3.size
 have e3 := n3.blk
 have f3 := f2.new n3
 have k13 := k12.ext n3.keep
 repeat' first | refine nx rfl ?_ | fail
 refine AA (AO rfl ?_)
 refine AS (Bl E w3 t2 [45, 62] h3.st) rfl ?_
 rintro _ w4 ⟨k4, b, t4, rfl, r4, q4⟩
 have h4 := h3.next k4 q4
 have b4 := b3.keep k4 (by simp <;> omega)
 have e4 := e3.keep k4 (by simp <;> omega)
 have f4 := f3.keep k4 (by intro b hb; simp [fresh] at hb ⊢; omega)
 have k14 := k13.trans k4 (by simp)
 have z4 := k4.size
 refine A7 rfl (AE ?_)
 rcases accepts_inv r4 with ⟨rfl, hl4, _, _⟩ | ⟨rfl, rfl, _⟩
 ·repeat' first | refine nx rfl ?_ | refine nf rfl ?_
  refine Bg (.read 0 (.read 1 (.alt 2 (.alt 3 (.read 4 (.alt 5 .done .stop)) .stop) .stop))) BE (by kernel_rfl) (by repeat (first | exact BD | refine A5 ?_)) (fun wd kd ed => ⟨fun W => Keep [E.s, w.heap.size] wd W, ?_, ?_⟩)
  ·exact Keep.refl _ _
  have hd := h4.ext kd
  have bd := b4.keep kd (by simp)
  have ed3 := e4.keep kd (by simp)
  have fd3 := f4.ext kd
  have zd : wd.heap.size = w4.heap.size := by rw [ed]
  have fc : ∀ W, Keep [E.s, w.heap.size] wd W → Cells W w2.heap.size 0 [c0, c1, c2, c3, c4] := fun W hW => (ed3.keep hW (by simp <;> omega)).cells
  ((apply D_R rfl rfl; (intro W hW; refine AV rfl (by rfl) (fc W hW) ?_; exact AE ⟨rfl, rfl, rfl⟩)) <;> (apply D_R rfl rfl; (intro W hW; refine AO rfl ?_; exact AE ⟨rfl, rfl, rfl⟩)))
  refine D_E rfl ?_
  refine AZ (hU t4.length (by omega) wd t4 hd (Nat.le_refl _)) rfl ?_ ?_
  rotate_left
  ·rintro ch wq ⟨kq, lq, rq, rfl⟩
   repeat' first | refine nx rfl ?_ | fail
   exact AX ⟨(k14.ext kd).trans kq (by simp), lq, Run.call r2 (r4.bind (Run.callE rq)), rfl⟩
  rintro v w7 ⟨k7, a2, t7, r7, q7, f7⟩
  have b7 := bd.keep k7 (by simp <;> omega)
  have f37 := fd3.keep k7 (by intro b hb; simp [fresh] at hb ⊢; omega)
  have k17 := (k14.ext kd).trans k7 (by simp)
  have z7 := k7.size
  obtain ⟨ds, rfl, hds, hone2⟩ := f7.cells
  obtain ⟨d0, d1, d2, d3, d4, rfl⟩ := CF hds
  refine AE ⟨fun W => Keep [E.s, w.heap.size] w7 W, fun W hW => (k7.mono (by simp)).trans hW (by simp), Keep.refl _ _, ?_⟩
  refine D_E rfl ?_
  refine AT (out := [c0, c1, c2, c3, c4, d0, d1, d2, d3, d4]) rfl (by omega) (by rw [made10]; rfl) (fun w8 n8 => ?_)
  have z8 := n8.size
  have b8 := b7.keep n8.keep (by simp)
  obtain ⟨S8, F8⟩ := FsAt.fresh (ok := fun b => w.heap.size < b) (L := [[c0, c1, c2, c3, c4], [d0, d1, d2, d3, d4]]) n8 (FsAt.two (f37.mono fun b hb => by simp only [fresh] at hb ⊢; omega) rfl (f7.mono fun b hb => by simp only [fresh] at hb ⊢; omega) rfl) (by omega) (by simp)
  refine AE ⟨fun W => Keep [E.s, w.heap.size] w8 W, fun W hW => n8.keep.any.trans hW (by simp), Keep.refl _ _, ?_⟩
  have f8 := FAt.node 7 [] 0 0 S8 F8
  ((apply D_R rfl rfl; (intro W hW; refine Ae (by rfl) (by rfl) ?_; exact AE ⟨rfl, rfl, rfl⟩)))
  refine D_E rfl ?_
  refine BZ rfl rfl f8 b8 rfl (fun w10 cs' e hcs' k10 z10 b10 => ?_)
  refine AE ⟨fun W => W = w10, fun W hW => hW ▸ k10.mono (by simp), rfl, ?_⟩
  refine A3 ?_
  repeat' first | refine nx rfl ?_ | fail
  refine Az rfl rfl hcs' b10.cells ⟨(k17.ext n8.keep).trans k10 (by simp <;> omega), ⟨7, [], 0, 0, [a1, a2]⟩, t7, Run.call r2 (r4.bind (Run.call r7 (Run.ret _ _))), (q7.ext n8.keep).keep k10 (by simp <;> omega), ?_⟩
  rw [← e]
  exact (f8.keep k10 (by intro b hb; simp at hb ⊢; omega)).mono (fun b hb => by simp only [fresh] at hb ⊢; omega)
 ·repeat' first | refine nx rfl ?_ | fail
  (refine AA ?_; refine AY rfl e4 rfl ?_)
  refine BZ rfl rfl f4 b4 rfl (fun w6 cs e hcs k6 z6 b6 => ?_)
  repeat' first | refine nx rfl ?_ | fail
  refine Az rfl rfl hcs b6.cells ⟨k14.trans k6 (by simp <;> omega), a1, _, Run.call r2 (r4.bind (Run.ret _ _)), h4.st.keep k6 (by simp <;> omega), ?_⟩
  rw [← e]
  exact (f4.keep k6 (by intro b hb; simp [fresh] at hb ⊢; omega)).mono (fun b hb => by simp only [fresh] at hb ⊢; omega)
theorem formulas_ok (E : Env) (N : Nat) : B8 E N 173 (body .primary) ∧ B8 E N 164 (body .unary) ∧ B8 E N 158 (body .untilN) ∧ B8 E N 65 (body .formula) := by
 induction N using Nat.strongRecOn with
 | _ N ih =>
  have h1 := primary_ok E N fun M hM => (ih M hM).2.2.2
  have h2 := unary_ok E N h1 fun M hM => (ih M hM).2.1
  have h3 := until_ok E N h2 fun M hM => (ih M hM).2.2.1
  exact ⟨h1, h2, h3, formula_ok E N (or_ok E N (and_ok E N h3)) fun M hM => (ih M hM).2.2.2⟩
end Go.Proofs.YtfcgdbmoncnibaaGreatDoor
namespace Go.Proofs.YtfcgdbmoncnibaaGreatDoor
open Go.RowKit
set_option linter.unusedVariables false
variable {mk : Prop} [MK mk]
structure Rp (α : Type) where
 fits : (Nat → Prop) → World → List Value → α → Prop
 size : Nat
 len : ∀ {ok w c a}, fits ok w c a → c.length = size
 one : ∀ {ok w c a}, fits ok w c a → oneC c
 keep : ∀ {ok X w w' c a}, fits ok w c a → Keep X w w' → (∀ b, ok b → b ∉ X) → fits ok w' c a
 lt : ∀ {ok w c a}, fits ok w c a → fits (fun b => ok b ∧ b < w.heap.size) w c a
 mono : ∀ {ok ok' : Nat → Prop} {w c a}, fits ok w c a → (∀ b, ok b → ok' b) → fits ok' w c a
theorem Rp.ext {α : Type} (R : Rp α) {ok : Nat → Prop} {w w' : World} {c : List Value} {a : α} (h : R.fits ok w c a) (k : Ext w w') : R.fits ok w' c a := R.keep h k fun _ _ => by simp
def RsAt {α : Type} (R : Rp α) (ok : Nat → Prop) (w : World) (L : List (List Value)) (l : List α) : Prop :=
 L.length = l.length ∧ ∀ (i : Nat) (c : List Value) (a : α), L[i]? = some c → l[i]? = some a → R.fits ok w c a
section
variable {α : Type} {R : Rp α} {ok : Nat → Prop} {w w' : World} {L : List (List Value)} {l : List α}
theorem RsAt.nil : RsAt R ok w [] [] := ⟨rfl, fun i c g h => by simp at h⟩
theorem RsAt.keep {X : List Nat} (h : RsAt R ok w L l) (k : Keep X w w') (hX : ∀ b, ok b → b ∉ X) : RsAt R ok w' L l := ⟨h.1, fun i c a hc ha => R.keep (h.2 i c a hc ha) k hX⟩
theorem RsAt.ext (h : RsAt R ok w L l) (k : Ext w w') : RsAt R ok w' L l := h.keep k fun _ _ => by simp
theorem RsAt.lt (h : RsAt R ok w L l) : RsAt R (fun b => ok b ∧ b < w.heap.size) w L l := ⟨h.1, fun i c a hc ha => R.lt (h.2 i c a hc ha)⟩
theorem RsAt.mono {ok' : Nat → Prop} (h : RsAt R ok w L l) (hk : ∀ b, ok b → ok' b) : RsAt R ok' w L l := ⟨h.1, fun i c a hc ha => R.mono (h.2 i c a hc ha) hk⟩
theorem RsAt.app {M : List (List Value)} {m : List α} (h : RsAt R ok w L l) (h' : RsAt R ok w M m) : RsAt R ok w (L ++ M) (l ++ m) := by
 refine ⟨by simp [h.1, h'.1], fun i c a hc ha => ?_⟩
 by_cases hi : i < L.length
 ·rw [List.getElem?_append_left hi] at hc
  rw [List.getElem?_append_left (by rw [← h.1]; exact hi)] at ha
  exact h.2 i c a hc ha
 ·rw [List.getElem?_append_right (by omega)] at hc
  rw [List.getElem?_append_right (by rw [← h.1]; omega), ← h.1] at ha
  exact h'.2 _ c a hc ha
theorem RsAt.one {c : List Value} {a : α} (h : R.fits ok w c a) : RsAt R ok w [c] [a] := by
 refine ⟨rfl, fun i d b hd hb => ?_⟩
 cases i with
 | zero => simp at hd hb; subst hd; subst hb; exact h
 | succ i => simp at hd
theorem RsAt.snoc {c : List Value} {a : α} (h : RsAt R ok w L l) (h' : R.fits ok w c a) : RsAt R ok w (L ++ [c]) (l ++ [a]) := h.app (RsAt.one h')
theorem RsAt.len (h : RsAt R ok w L l) : ∀ c ∈ L, c.length = R.size := by
 intro c hc
 obtain ⟨i, hi⟩ := List.getElem?_of_mem hc
 have hlt : i < l.length := by have := (List.getElem?_eq_some_iff.1 hi).1; rw [h.1] at this; exact this
 exact R.len (h.2 i c _ hi (List.getElem?_eq_getElem hlt))
theorem flat_len (n : Nat) : ∀ L : List (List Value), (∀ c ∈ L, c.length = n) → L.flatten.length = L.length * n
 | [], _ => by simp
 | c :: L, h => by
  have := h c (by simp)
  have ih := flat_len n L fun d hd => h d (by simp [hd])
  simp only [List.flatten_cons, List.length_append, List.length_cons, ih, Nat.succ_mul]; omega
theorem RsAt.flat (h : RsAt R ok w L l) : L.flatten.length = l.length * R.size := by rw [← h.1]; exact flat_len _ L h.len
theorem RsAt.oneC (h : RsAt R ok w L l) : oneC L.flatten := by
 intro u hu
 obtain ⟨c, hc, hu⟩ := List.mem_flatten.1 hu
 obtain ⟨i, hi⟩ := List.getElem?_of_mem hc
 have hlt : i < l.length := by have := (List.getElem?_eq_some_iff.1 hi).1; rw [h.1] at this; exact this
 exact R.one (h.2 i c _ hi (List.getElem?_eq_getElem hlt)) u hu
end
def SlAt {α : Type} (R : Rp α) (ok : Nat → Prop) (w : World) (v : Value) (l : List α) : Prop := ∃ a c L, v = .slice a l.length c ∧ Sl ok w v l.length L.flatten ∧ RsAt R ok w L l
def CC (x : Sgn) : List Value := [AM x.name, .bool x.input, .int .i64 x.size]
def sgnR : Rp Sgn where
 fits _ _ c x := c = CC x
 size := 3
 len h := by subst h; rfl
 one h := by subst h; intro u hu; simp [CC] at hu; rcases hu with rfl | rfl | rfl <;> rfl
 keep h _ _ := h
 lt h := h
 mono h _ := h
def reqR : Rp Rqm where
 fits ok w c x := ∃ d : List Value, c = [AM x.part, AM x.name, .int .i64 x.kind] ++ d ∧ d.length = 5 ∧ FAt ok w (.agg d.toArray) x.formula
 size := 8
 len h := by obtain ⟨d, rfl, hd, _⟩ := h; simp [hd]
 one h := by
  obtain ⟨d, rfl, hd, hf⟩ := h
  obtain ⟨d', e, _, h1⟩ := hf.cells
  have : d = d' := by simpa using e
  subst this
  intro u hu
  rcases List.mem_append.1 hu with hu | hu
  ·simp at hu; rcases hu with rfl | rfl | rfl <;> rfl
  ·exact h1 u hu
 keep h k hX := by obtain ⟨d, e, hd, hf⟩ := h; exact ⟨d, e, hd, hf.keep k hX⟩
 lt h := by obtain ⟨d, e, hd, hf⟩ := h; exact ⟨d, e, hd, hf.lt⟩
 mono h hk := by obtain ⟨d, e, hd, hf⟩ := h; exact ⟨d, e, hd, hf.mono hk⟩
theorem Sl_ltR {α : Type} {R : Rp α} {ok : Nat → Prop} {w : World} {v : Value} {L : List (List Value)} {l : List α} (hR : 0 < R.size) (h : Sl ok w v l.length L.flatten) (h' : RsAt R ok w L l) : Sl (fun b => ok b ∧ b < w.heap.size) w v l.length L.flatten := by
 refine h.lt fun h0 e => ?_
 have := h'.flat
 rw [e] at this
 have h1 : 0 < l.length * R.size := Nat.mul_pos (by omega) hR
 simp at this; omega
def listR {α : Type} (R : Rp α) (hR : 0 < R.size) : Rp (List α) where
 fits ok w c l := ∃ v, c = [v] ∧ SlAt R ok w v l
 size := 1
 len h := by obtain ⟨v, rfl, _⟩ := h; rfl
 one h := by obtain ⟨v, rfl, a, c, L, rfl, _⟩ := h; intro u hu; simp at hu; subst hu; rfl
 keep h k hX := by obtain ⟨v, e, a, c, L, hv, h1, h2⟩ := h; exact ⟨v, e, a, c, L, hv, h1.keep k hX, h2.keep k hX⟩
 lt h := by obtain ⟨v, e, a, c, L, hv, h1, h2⟩ := h; exact ⟨v, e, a, c, L, hv, Sl_ltR hR h1 h2, h2.lt⟩
 mono h hk := by obtain ⟨v, e, a, c, L, hv, h1, h2⟩ := h; exact ⟨v, e, a, c, L, hv, h1.mono hk, h2.mono hk⟩
structure WhileP {α : Type} (pm : G Bool) (pi : G α) (pl : G (List α)) : Prop where
 done : ∀ {t}, Run pm t (.ok (false, t)) → Run pl t (.ok ([], t))
 more : ∀ {t t2 t3 a l}, Run pm t (.ok (true, t)) → Run pi t (.ok (a, t2)) → Run pl t2 (.ok (l, t3)) → Run pl t (.ok (a :: l, t3))
 err1 : ∀ {t e}, Run pm t (.ok (true, t)) → Run pi t (.error e) → Run pl t (.error e)
 err2 : ∀ {t t2 a e}, Run pm t (.ok (true, t)) → Run pi t (.ok (a, t2)) → Run pl t2 (.error e) → Run pl t (.error e)
 less : ∀ {t t2 a}, Run pm t (.ok (true, t)) → Run pi t (.ok (a, t2)) → t2.length < t.length
def prepL {α : Type} (l : List α) : Ans (List α) → Ans (List α)
 | .ok y => .ok (l ++ y.1, y.2)
 | .error e => .error e
theorem WhileP.step {α : Type} {pm : G Bool} {pi : G α} {pl : G (List α)} (h : WhileP pm pi pl) {t t2 : List Tok} {a : α} (h1 : Run pm t (.ok (true, t))) (h2 : Run pi t (.ok (a, t2))) {r : Ans (List α)} (hr : Run pl t2 r) : Run pl t (prepL [a] r) := by
 cases r with
 | ok y => exact h.more h1 h2 hr
 | error e => exact h.err2 h1 h2 hr
theorem prepL_app {α : Type} (l m : List α) (r : Ans (List α)) : prepL l (prepL m r) = prepL (l ++ m) r := by
 cases r <;> simp [prepL]
theorem prepL_nil {α : Type} (r : Ans (List α)) : prepL [] r = r := by cases r <;> simp [prepL]
def ItemR {α : Type} (R : Rp α) (val : List Value → Value) (E : Env) (N : Nat) (g : FuncId) (pi : G α) : Prop := ∀ (w : World) (ts : List Tok), PW w E ts → ts.length ≤ N → PDo E g [pt E.s] w pi ts (fun w' v a => ∃ c, v = val c ∧ R.fits (fresh w) w' c a)
def aggV (c : List Value) : Value := .agg c.toArray
def oneV (c : List Value) : Value := c.headD undef
def MoreOk (E : Env) (w0 : World) (g : FuncId) (v1 v2 : List Value) (pm : G Bool) : Prop := ∀ (w : World) (ts : List Tok), Keep [E.s] w0 w → PW w E ts → Fn Tryz.prog g (v1 ++ [] ++ v2) w (fun v w' => ∃ b, v = .bool b ∧ Run pm ts (.ok (b, ts)) ∧ w' = w)
theorem madeSgn : (madeCells (Value.agg #[AM [], .bool false, .int .i64 0]).cells (1 * 3)).toList = [AM [], .bool false, .int .i64 0] := by kernel_rfl
theorem madeReq : (madeCells (Value.agg #[AM [], AM [], .int .i64 0, .int .i64 0, AM [], .int .i64 0, .int .i64 0, .slice none 0 0]).cells (1 * 8)).toList = [AM [], AM [], .int .i64 0, .int .i64 0, AM [], .int .i64 0, .int .i64 0, .slice none 0 0] := by kernel_rfl
theorem madeSl : (madeCells (Value.slice none 0 0).cells (1 * 1)).toList = [.slice none 0 0] := by kernel_rfl
theorem cells3 {cs : List Value} (h : cs.length = 3) : ∃ c0 c1 c2, cs = [c0, c1, c2] := by
 match cs, h with
 | [c0, c1, c2], _ => exact ⟨_, _, _, rfl⟩
theorem cells8' {cs : List Value} (h : cs.length = 8) : ∃ c0 c1 c2 c3 c4 c5 c6 c7, cs = [c0, c1, c2, c3, c4, c5, c6, c7] := by
 match cs, h with
 | [c0, c1, c2, c3, c4, c5, c6, c7], _ => exact ⟨_, _, _, _, _, _, _, _, rfl⟩
theorem whileSgn_ok (E : Env) (N : Nat) (gm g : FuncId) [AR Tryz.prog gm] [AR Tryz.prog g] (v1 v2 : List Value) (pm : G Bool) (pi : G Sgn) (pl : G (List Sgn)) (hC : WhileP pm pi pl) (w : World) (ts : List Tok) (hM : MoreOk E w gm v1 v2 pm)
  (hI : ItemR sgnR aggV E N g pi) (h : PW w E ts) (hN : ts.length ≤ N) :
  PDo E 94 [.func (.func gm) v1.toArray v2.toArray, .func (.func g) #[pt E.s] #[]] w pl ts (fun w' v l => ∃ L, w'.ownsRow w.heap.size 72 3 v l.length L.flatten ∧ RsAt sgnR (fun b => fresh w b ∧ v.ownBlock ≠ some b) w' L l) := by
 have hsl := h.st.slt
 unfold PDo
 refine Ao Tryz.func94 rfl Tryz.ntmps94 (Nat.le_of_ble_eq_true rfl) (by kernel_rfl) ?_
 repeat' first | refine nx rfl ?_ | fail
 refine AA (AC (Al rfl ?_))
 repeat' first | refine nx rfl ?_ | fail
 refine AA (AC (Al rfl ?_))
 repeat' first | refine nx rfl ?_ | fail
 refine BC (α := Value × List (List Value) × List _ × List Tok) (fun x => [(0, .func (.func gm) v1.toArray v2.toArray), (1, .func (.func g) #[pt E.s] #[]), (5, x.1)])
  (fun x W => Keep [E.s] w W ∧ PW W E x.2.2.2 ∧ x.2.2.1.length + x.2.2.2.length ≤ ts.length ∧ x.2.2.2.length ≤ ts.length ∧ W.ownsRow w.heap.size 72 3 x.1 x.2.2.1.length x.2.1.flatten ∧ RsAt (sgnR) (fun b => fresh w b ∧ x.1.ownBlock ≠ some b) W x.2.1 x.2.2.1 ∧
   ∀ r, Run pl x.2.2.2 r → Run pl ts (prepL x.2.2.1 r))
  (fun x => x.2.2.2.length) (.slice none 0 0, [], [], ts) ⟨rfl, rfl, rfl, trivial⟩ ⟨Keep.refl _ _, h, by simp, Nat.le_refl _, ⟨by simp, .inl ⟨rfl, rfl⟩⟩, RsAt.nil, fun r hr => by rw [prepL_nil]; exact hr⟩ ?_
 rintro ⟨v, L, l, cur⟩ w3 f3 ⟨k3, h3, hcnt, hcur, o3, F3, hcont⟩
 simp only at k3 h3 hcur hcnt o3 F3 hcont ⊢
 repeat' first | refine nx rfl ?_ | fail
 (refine AA ?_ <;> refine CO rfl ?_)
 refine Bk (v1 := v1) (v2 := v2) (vs := []) rfl (hM w3 cur k3 h3) rfl ?_
 rintro _ w4 ⟨b, rfl, r4, rfl⟩
 have hsg : ∀ g, v.ownBlock = some g → w.heap.size ≤ g ∧ g < w4.heap.size := fun g hg => BW o3 hg
 have z3 := k3.size
 refine AE ?_
 cases b with
 | true =>
  repeat' first | refine nx rfl ?_ | fail
  (refine AA (AU ?_) <;> refine CO rfl ?_)
  refine Bz (v1 := [pt E.s]) (v2 := []) (vs := []) rfl (hI w4 cur h3 (by omega)) rfl ?_ ?_
  rotate_left
  ·rintro ch w5 ⟨k5, l, r5, rfl⟩
   repeat' first | refine nx rfl ?_ | fail
   exact AX ⟨k3.trans k5 (by simp), l, hcont _ (hC.err1 r4 r5), rfl⟩
  rintro u w5 ⟨k5, a, c2, r5, q5, c, rfl, f5⟩
  have h5 := h3.next k5 q5
  have hc2 := hC.less r4 r5
  have o5 := Ay o3 k5 (fun g hg => by have := hsg g hg; simp; omega)
  have F5 := F3.keep k5 (fun b hb => by have := hb.1; simp [fresh] at this ⊢; omega)
  have k35 := k3.trans k5 (by simp)
  have f5' := (sgnR).lt f5
  have z5 := k5.size
  have hclen := (sgnR).len f5
  have hcone := (sgnR).one f5
  obtain ⟨u0, u1, u2, hcx⟩ := cells3 hclen
  refine AT (out := c) rfl (by omega) (by rw [madeSgn, hcx]; rfl) (fun w6 n6 => ?_)
  have z6 := n6.size
  have o6 := n6.own (n := 1) (size := 3) hclen (by unfold maxLen; omega) (Nat.le_refl _)
  have hts2 := h.st.cnt
  refine B9 (ok := A2) (v := v) (sv := .slice (some ⟨w5.heap.size, 0, none⟩) 1 1) rfl rfl (Br o5 n6.keep) (A8 o6 fun _ _ => trivial) (by omega) rfl hclen hcone (by omega) (by omega) (by omega) (fun v7 w7 a7 => ?_)
  ((refine AC ?_; refine AU ?_))
  repeat' first | refine nx rfl ?_ | fail
  have o7 := a7.own
  have h7 := (h5.ext n6.keep).keep a7.keep (fun x hx => by have := hsg x (Option.mem_toList.1 hx); omega)
  have hv7 : ∀ b, v7.ownBlock = some b → v.ownBlock = some b ∨ b = w6.heap.size := fun b hb => by
   rcases a7.blk with e | e
   ·exact .inl (by rw [← e]; exact hb)
   ·rw [e] at hb; exact .inr (Option.some.inj hb).symm
  have F7 : RsAt (sgnR) (fun b => fresh w b ∧ v7.ownBlock ≠ some b) w7 L l := by
   refine ((F5.lt.ext n6.keep).keep a7.keep ?_).mono ?_
   ·rintro b ⟨⟨_, hb⟩, _⟩ hx; exact hb (Option.mem_toList.1 hx)
   ·rintro b ⟨⟨h1, hb⟩, hlt⟩
    refine ⟨h1, fun e => ?_⟩
    rcases hv7 b e with e | e
    ·exact hb e
    ·omega
  have f7 : (sgnR).fits (fun b => fresh w b ∧ v7.ownBlock ≠ some b) w7 c a := by
   refine (sgnR).mono ((sgnR).keep ((sgnR).ext f5' n6.keep) a7.keep ?_) ?_
   ·rintro b ⟨hb, hlt⟩ hx
    have := hsg b (Option.mem_toList.1 hx)
    simp [fresh] at hb; omega
   ·rintro b ⟨hb, hlt⟩
    simp only [fresh] at hb ⊢
    refine ⟨by omega, fun e => ?_⟩
    rcases hv7 b e with e | e
    ·have := hsg b e; omega
    ·omega
  refine ⟨(v7, L ++ [c], l ++ [a], c2), ⟨rfl, ⟨rfl, rfl, rfl, trivial⟩, ⟨?_, h7, by simp only [List.length_append, List.length_cons, List.length_nil] at hcnt ⊢; omega, by simp only; omega, ?_, F7.snoc f7, fun r hr => ?_⟩⟩, by simp only; omega⟩
  ·exact (k35.ext n6.keep).trans a7.keep (fun x hx hlt => by have := hsg x (Option.mem_toList.1 hx); omega)
  ·have e1 : (L ++ [c]).flatten = L.flatten ++ c := by simp
   simp only
   rw [e1, List.length_append]
   exact o7
  ·rw [← prepL_app]
   exact hcont _ (hC.step r4 r5 hr)
 | false =>
  repeat' first | refine nx rfl ?_ | refine nf rfl ?_
  refine AA (AU (AC (AU (AE ?_))))
  have hS := A8 (ok := fresh w) o3 (fun g hg => (hsg g hg).1)
  obtain ⟨sa, sc, rfl, _⟩ := id hS
  repeat' first | refine nx rfl ?_ | fail
  have e2 := hcont _ (hC.done r4)
  simp only [prepL, List.append_nil] at e2
  exact AP rfl ⟨k3, l, cur, e2, h3.st, L, o3, F3⟩
theorem whileReq_ok (E : Env) (N : Nat) (gm g : FuncId) [AR Tryz.prog gm] [AR Tryz.prog g] (v1 v2 : List Value) (pm : G Bool) (pi : G Rqm) (pl : G (List Rqm)) (hC : WhileP pm pi pl) (w : World) (ts : List Tok) (hM : MoreOk E w gm v1 v2 pm)
  (hI : ItemR reqR aggV E N g pi) (h : PW w E ts) (hN : ts.length ≤ N) :
  PDo E 130 [.func (.func gm) v1.toArray v2.toArray, .func (.func g) #[pt E.s] #[]] w pl ts (fun w' v l => ∃ L, w'.ownsRow w.heap.size 30 8 v l.length L.flatten ∧ RsAt reqR (fun b => fresh w b ∧ v.ownBlock ≠ some b) w' L l) := by
 have hsl := h.st.slt
 unfold PDo
 refine Ao Tryz.func130 rfl Tryz.ntmps130 (Nat.le_of_ble_eq_true rfl) (by kernel_rfl) ?_
 repeat' first | refine nx rfl ?_ | fail
 refine AA (AC (Al rfl ?_))
 repeat' first | refine nx rfl ?_ | fail
 refine AA (AC (Al rfl ?_))
 repeat' first | refine nx rfl ?_ | fail
 refine BC (α := Value × List (List Value) × List _ × List Tok) (fun x => [(0, .func (.func gm) v1.toArray v2.toArray), (1, .func (.func g) #[pt E.s] #[]), (5, x.1)])
  (fun x W => Keep [E.s] w W ∧ PW W E x.2.2.2 ∧ x.2.2.1.length + x.2.2.2.length ≤ ts.length ∧ x.2.2.2.length ≤ ts.length ∧ W.ownsRow w.heap.size 30 8 x.1 x.2.2.1.length x.2.1.flatten ∧ RsAt (reqR) (fun b => fresh w b ∧ x.1.ownBlock ≠ some b) W x.2.1 x.2.2.1 ∧
   ∀ r, Run pl x.2.2.2 r → Run pl ts (prepL x.2.2.1 r))
  (fun x => x.2.2.2.length) (.slice none 0 0, [], [], ts) ⟨rfl, rfl, rfl, trivial⟩ ⟨Keep.refl _ _, h, by simp, Nat.le_refl _, ⟨by simp, .inl ⟨rfl, rfl⟩⟩, RsAt.nil, fun r hr => by rw [prepL_nil]; exact hr⟩ ?_
 rintro ⟨v, L, l, cur⟩ w3 f3 ⟨k3, h3, hcnt, hcur, o3, F3, hcont⟩
 simp only at k3 h3 hcur hcnt o3 F3 hcont ⊢
 repeat' first | refine nx rfl ?_ | fail
 (refine AA ?_ <;> refine CO rfl ?_)
 refine Bk (v1 := v1) (v2 := v2) (vs := []) rfl (hM w3 cur k3 h3) rfl ?_
 rintro _ w4 ⟨b, rfl, r4, rfl⟩
 have hsg : ∀ g, v.ownBlock = some g → w.heap.size ≤ g ∧ g < w4.heap.size := fun g hg => BW o3 hg
 have z3 := k3.size
 refine AE ?_
 cases b with
 | true =>
  repeat' first | refine nx rfl ?_ | fail
  (refine AA (AU ?_) <;> refine CO rfl ?_)
  refine Bz (v1 := [pt E.s]) (v2 := []) (vs := []) rfl (hI w4 cur h3 (by omega)) rfl ?_ ?_
  rotate_left
  ·rintro ch w5 ⟨k5, l, r5, rfl⟩
   repeat' first | refine nx rfl ?_ | fail
   exact AX ⟨k3.trans k5 (by simp), l, hcont _ (hC.err1 r4 r5), rfl⟩
  rintro u w5 ⟨k5, a, c2, r5, q5, c, rfl, f5⟩
  have h5 := h3.next k5 q5
  have hc2 := hC.less r4 r5
  have o5 := Ay o3 k5 (fun g hg => by have := hsg g hg; simp; omega)
  have F5 := F3.keep k5 (fun b hb => by have := hb.1; simp [fresh] at this ⊢; omega)
  have k35 := k3.trans k5 (by simp)
  have f5' := (reqR).lt f5
  have z5 := k5.size
  have hclen := (reqR).len f5
  have hcone := (reqR).one f5
  obtain ⟨u0, u1, u2, u3, u4, u5, u6, u7, hcx⟩ := cells8' hclen
  refine AT (out := c) rfl (by omega) (by rw [madeReq, hcx]; rfl) (fun w6 n6 => ?_)
  have z6 := n6.size
  have o6 := n6.own (n := 1) (size := 8) hclen (by unfold maxLen; omega) (Nat.le_refl _)
  have hts2 := h.st.cnt
  refine B9 (ok := A2) (v := v) (sv := .slice (some ⟨w5.heap.size, 0, none⟩) 1 1) rfl rfl (Br o5 n6.keep) (A8 o6 fun _ _ => trivial) (by omega) rfl hclen hcone (by omega) (by omega) (by omega) (fun v7 w7 a7 => ?_)
  ((refine AC ?_; refine AU ?_))
  repeat' first | refine nx rfl ?_ | fail
  have o7 := a7.own
  have h7 := (h5.ext n6.keep).keep a7.keep (fun x hx => by have := hsg x (Option.mem_toList.1 hx); omega)
  have hv7 : ∀ b, v7.ownBlock = some b → v.ownBlock = some b ∨ b = w6.heap.size := fun b hb => by
   rcases a7.blk with e | e
   ·exact .inl (by rw [← e]; exact hb)
   ·rw [e] at hb; exact .inr (Option.some.inj hb).symm
  have F7 : RsAt (reqR) (fun b => fresh w b ∧ v7.ownBlock ≠ some b) w7 L l := by
   refine ((F5.lt.ext n6.keep).keep a7.keep ?_).mono ?_
   ·rintro b ⟨⟨_, hb⟩, _⟩ hx; exact hb (Option.mem_toList.1 hx)
   ·rintro b ⟨⟨h1, hb⟩, hlt⟩
    refine ⟨h1, fun e => ?_⟩
    rcases hv7 b e with e | e
    ·exact hb e
    ·omega
  have f7 : (reqR).fits (fun b => fresh w b ∧ v7.ownBlock ≠ some b) w7 c a := by
   refine (reqR).mono ((reqR).keep ((reqR).ext f5' n6.keep) a7.keep ?_) ?_
   ·rintro b ⟨hb, hlt⟩ hx
    have := hsg b (Option.mem_toList.1 hx)
    simp [fresh] at hb; omega
   ·rintro b ⟨hb, hlt⟩
    simp only [fresh] at hb ⊢
    refine ⟨by omega, fun e => ?_⟩
    rcases hv7 b e with e | e
    ·have := hsg b e; omega
    ·omega
  refine ⟨(v7, L ++ [c], l ++ [a], c2), ⟨rfl, ⟨rfl, rfl, rfl, trivial⟩, ⟨?_, h7, by simp only [List.length_append, List.length_cons, List.length_nil] at hcnt ⊢; omega, by simp only; omega, ?_, F7.snoc f7, fun r hr => ?_⟩⟩, by simp only; omega⟩
  ·exact (k35.ext n6.keep).trans a7.keep (fun x hx hlt => by have := hsg x (Option.mem_toList.1 hx); omega)
  ·have e1 : (L ++ [c]).flatten = L.flatten ++ c := by simp
   simp only
   rw [e1, List.length_append]
   exact o7
  ·rw [← prepL_app]
   exact hcont _ (hC.step r4 r5 hr)
 | false =>
  repeat' first | refine nx rfl ?_ | refine nf rfl ?_
  refine AA (AU (AC (AU (AE ?_))))
  have hS := A8 (ok := fresh w) o3 (fun g hg => (hsg g hg).1)
  obtain ⟨sa, sc, rfl, _⟩ := id hS
  repeat' first | refine nx rfl ?_ | fail
  have e2 := hcont _ (hC.done r4)
  simp only [prepL, List.append_nil] at e2
  exact AP rfl ⟨k3, l, cur, e2, h3.st, L, o3, F3⟩
def reqsR : Rp (List Rqm) := listR reqR (by show 0 < 8; decide)
theorem reqs_form {ok : Nat → Prop} {w : World} {c : List Value} {a : List Rqm} (h : reqsR.fits ok w c a) : ∃ sa sc, c = [.slice sa a.length sc] := by
 obtain ⟨v', e1, sa', sc', _, e2, _⟩ := h
 exact ⟨sa', sc', by rw [e1, e2]⟩
theorem whileReqs_ok (E : Env) (N : Nat) (gm g : FuncId) [AR Tryz.prog gm] [AR Tryz.prog g] (v1 v2 : List Value) (pm : G Bool) (pi : G (List Rqm)) (pl : G (List (List Rqm))) (hC : WhileP pm pi pl) (w : World) (ts : List Tok) (hM : MoreOk E w gm v1 v2 pm)
  (hI : ItemR reqsR oneV E N g pi) (h : PW w E ts) (hN : ts.length ≤ N) :
  PDo E 96 [.func (.func gm) v1.toArray v2.toArray, .func (.func g) #[pt E.s] #[]] w pl ts (fun w' v l => ∃ L, w'.ownsRow w.heap.size 26 1 v l.length L.flatten ∧ RsAt reqsR (fun b => fresh w b ∧ v.ownBlock ≠ some b) w' L l) := by
 have hsl := h.st.slt
 unfold PDo
 refine Ao Tryz.func96 rfl Tryz.ntmps96 (Nat.le_of_ble_eq_true rfl) (by kernel_rfl) ?_
 repeat' first | refine nx rfl ?_ | fail
 refine AA (AC (Al rfl ?_))
 repeat' first | refine nx rfl ?_ | fail
 refine AA (AC (Al rfl ?_))
 repeat' first | refine nx rfl ?_ | fail
 refine BC (α := Value × List (List Value) × List _ × List Tok) (fun x => [(0, .func (.func gm) v1.toArray v2.toArray), (1, .func (.func g) #[pt E.s] #[]), (5, x.1)])
  (fun x W => Keep [E.s] w W ∧ PW W E x.2.2.2 ∧ x.2.2.1.length + x.2.2.2.length ≤ ts.length ∧ x.2.2.2.length ≤ ts.length ∧ W.ownsRow w.heap.size 26 1 x.1 x.2.2.1.length x.2.1.flatten ∧ RsAt (reqsR) (fun b => fresh w b ∧ x.1.ownBlock ≠ some b) W x.2.1 x.2.2.1 ∧
   ∀ r, Run pl x.2.2.2 r → Run pl ts (prepL x.2.2.1 r))
  (fun x => x.2.2.2.length) (.slice none 0 0, [], [], ts) ⟨rfl, rfl, rfl, trivial⟩ ⟨Keep.refl _ _, h, by simp, Nat.le_refl _, ⟨by simp, .inl ⟨rfl, rfl⟩⟩, RsAt.nil, fun r hr => by rw [prepL_nil]; exact hr⟩ ?_
 rintro ⟨v, L, l, cur⟩ w3 f3 ⟨k3, h3, hcnt, hcur, o3, F3, hcont⟩
 simp only at k3 h3 hcur hcnt o3 F3 hcont ⊢
 repeat' first | refine nx rfl ?_ | fail
 (refine AA ?_ <;> refine CO rfl ?_)
 refine Bk (v1 := v1) (v2 := v2) (vs := []) rfl (hM w3 cur k3 h3) rfl ?_
 rintro _ w4 ⟨b, rfl, r4, rfl⟩
 have hsg : ∀ g, v.ownBlock = some g → w.heap.size ≤ g ∧ g < w4.heap.size := fun g hg => BW o3 hg
 have z3 := k3.size
 refine AE ?_
 cases b with
 | true =>
  repeat' first | refine nx rfl ?_ | fail
  (refine AA (AU ?_) <;> refine CO rfl ?_)
  refine Bz (v1 := [pt E.s]) (v2 := []) (vs := []) rfl (hI w4 cur h3 (by omega)) rfl ?_ ?_
  rotate_left
  ·rintro ch w5 ⟨k5, l, r5, rfl⟩
   repeat' first | refine nx rfl ?_ | fail
   exact AX ⟨k3.trans k5 (by simp), l, hcont _ (hC.err1 r4 r5), rfl⟩
  rintro u w5 ⟨k5, a, c2, r5, q5, c, rfl, f5⟩
  have h5 := h3.next k5 q5
  have hc2 := hC.less r4 r5
  have o5 := Ay o3 k5 (fun g hg => by have := hsg g hg; simp; omega)
  have F5 := F3.keep k5 (fun b hb => by have := hb.1; simp [fresh] at this ⊢; omega)
  have k35 := k3.trans k5 (by simp)
  have f5' := (reqsR).lt f5
  have z5 := k5.size
  have hclen := (reqsR).len f5
  have hcone := (reqsR).one f5
  obtain ⟨sa', sc', hcx⟩ := reqs_form f5
  refine AT (out := c) rfl (by omega) (by rw [madeSl, hcx]; rfl) (fun w6 n6 => ?_)
  have z6 := n6.size
  have o6 := n6.own (n := 1) (size := 1) hclen (by unfold maxLen; omega) (Nat.le_refl _)
  have hts2 := h.st.cnt
  refine B9 (ok := A2) (v := v) (sv := .slice (some ⟨w5.heap.size, 0, none⟩) 1 1) rfl rfl (Br o5 n6.keep) (A8 o6 fun _ _ => trivial) (by omega) rfl hclen hcone (by omega) (by omega) (by omega) (fun v7 w7 a7 => ?_)
  ((refine AC ?_; refine AU ?_))
  repeat' first | refine nx rfl ?_ | fail
  have o7 := a7.own
  have h7 := (h5.ext n6.keep).keep a7.keep (fun x hx => by have := hsg x (Option.mem_toList.1 hx); omega)
  have hv7 : ∀ b, v7.ownBlock = some b → v.ownBlock = some b ∨ b = w6.heap.size := fun b hb => by
   rcases a7.blk with e | e
   ·exact .inl (by rw [← e]; exact hb)
   ·rw [e] at hb; exact .inr (Option.some.inj hb).symm
  have F7 : RsAt (reqsR) (fun b => fresh w b ∧ v7.ownBlock ≠ some b) w7 L l := by
   refine ((F5.lt.ext n6.keep).keep a7.keep ?_).mono ?_
   ·rintro b ⟨⟨_, hb⟩, _⟩ hx; exact hb (Option.mem_toList.1 hx)
   ·rintro b ⟨⟨h1, hb⟩, hlt⟩
    refine ⟨h1, fun e => ?_⟩
    rcases hv7 b e with e | e
    ·exact hb e
    ·omega
  have f7 : (reqsR).fits (fun b => fresh w b ∧ v7.ownBlock ≠ some b) w7 c a := by
   refine (reqsR).mono ((reqsR).keep ((reqsR).ext f5' n6.keep) a7.keep ?_) ?_
   ·rintro b ⟨hb, hlt⟩ hx
    have := hsg b (Option.mem_toList.1 hx)
    simp [fresh] at hb; omega
   ·rintro b ⟨hb, hlt⟩
    simp only [fresh] at hb ⊢
    refine ⟨by omega, fun e => ?_⟩
    rcases hv7 b e with e | e
    ·have := hsg b e; omega
    ·omega
  refine ⟨(v7, L ++ [c], l ++ [a], c2), ⟨rfl, ⟨rfl, rfl, rfl, trivial⟩, ⟨?_, h7, by simp only [List.length_append, List.length_cons, List.length_nil] at hcnt ⊢; omega, by simp only; omega, ?_, F7.snoc f7, fun r hr => ?_⟩⟩, by simp only; omega⟩
  ·exact (k35.ext n6.keep).trans a7.keep (fun x hx hlt => by have := hsg x (Option.mem_toList.1 hx); omega)
  ·have e1 : (L ++ [c]).flatten = L.flatten ++ c := by simp
   simp only
   rw [e1, List.length_append]
   exact o7
  ·rw [← prepL_app]
   exact hcont _ (hC.step r4 r5 hr)
 | false =>
  repeat' first | refine nx rfl ?_ | refine nf rfl ?_
  refine AA (AU (AC (AU (AE ?_))))
  have hS := A8 (ok := fresh w) o3 (fun g hg => (hsg g hg).1)
  obtain ⟨sa, sc, rfl, _⟩ := id hS
  repeat' first | refine nx rfl ?_ | fail
  have e2 := hcont _ (hC.done r4)
  simp only [prepL, List.append_nil] at e2
  exact AP rfl ⟨k3, l, cur, e2, h3.st, L, o3, F3⟩
end Go.Proofs.YtfcgdbmoncnibaaGreatDoor
namespace Go.Proofs.YtfcgdbmoncnibaaGreatDoor
open Go.RowKit
variable {mk : Prop} [MK mk]
attribute [local semireducible] WC AW Bi BG Bc Ca Cs Be
variable {P : Program} {all : Array Oper}
theorem stepP_mono {o : Oper} {f : Fr} {ds : DS} {w : World} {K K' : Value → DS → World → Prop} {Z Z' : List PanicEntry → World → Prop} (hK : ∀ v ds w, K v ds w → K' v ds w) (hZ : ∀ c w, Z c w → Z' c w) (h : Be P o f ds w K Z) : Be P o f ds w K' Z' := by
 unfold Be at h ⊢
 revert h
 generalize (execOp (ev f) o).run P w = res
 intro h
 cases res with
 | halt x w' => cases x <;> first | exact h.elim | exact hZ _ _ h
 | ok m w' =>
  cases m with
  | value v => exact hK _ _ _ h
  | skip => exact hK _ _ _ h
  | defer d => exact hK _ _ _ h
  | enter g args =>
   refine Calls.mono h fun e w'' he => ?_
   cases e with
   | returned v => exact hK _ _ _ he
   | panicked ch => exact hZ _ _ he
   | outgrown => exact he
  | round l g tmps assign body =>
   refine RoundIn.mono h fun e w'' he => ?_
   cases e with
   | returned v => exact hK _ _ _ he
   | panicked ch => exact hZ _ _ he
   | outgrown => exact he
  | _ => exact h.elim
theorem WOps_mono {Z Z' : Fr → DS → List PanicEntry → World → Prop} {K K' : Fr → DS → World → Prop} (hK : ∀ f ds w, K f ds w → K' f ds w) (hZ : ∀ f ds c w, Z f ds c w → Z' f ds c w) : ∀ (l : List Oper) (f : Fr) (ds : DS) (w : World), AW P all Z K l f ds w → AW P all Z' K' l f ds w
 | [], f, ds, w, h => hK f ds w h
 | o :: rest, f, ds, w, h => by
  unfold AW at h ⊢
  split at h
  ·rename_i hg
   rw [if_pos hg]
   exact stepP_mono (fun v ds w hh => WOps_mono hK hZ rest _ ds w hh) (fun c w hh => hZ _ _ _ _ hh) h
  ·rename_i hg
   rw [if_neg hg]
   exact WOps_mono hK hZ rest _ ds w h
theorem WC_mono {n : Cf} : ∀ (c : Code) {Q Q' : CD} (_ : ∀ e f ds w, Q e f ds w → Q' e f ds w) (f : Fr) (ds : DS) (w : World), WC P n c Q f ds w → WC P n c Q' f ds w
 | .skip, _, _, hQ, f, ds, w, h => hQ _ f ds w h
 | .label _, _, _, hQ, f, ds, w, h => hQ _ f ds w h
 | .ret, _, _, hQ, f, ds, w, h => hQ _ f ds w h
 | .exit _, _, _, hQ, f, ds, w, h => hQ _ f ds w h
 | .goto _, _, _, _, _, _, _, h => h.elim
 | .refuse _, _, _, _, _, _, _, h => h.elim
 | .seq a b, _, _, hQ, f, ds, w, h => by
  refine WC_mono a ?_ f ds w h
  intro e f ds w hh
  cases e with
  | normal => exact WC_mono b hQ f ds w hh
  | _ => exact hQ _ f ds w hh
 | .block id c, _, _, hQ, f, ds, w, h => by
  refine WC_mono c ?_ f ds w h
  intro e f ds w hh
  cases e with
  | exit i =>
   simp only [BG] at hh ⊢
   split at hh
   ·rename_i hi; rw [if_pos hi]; exact hQ _ f ds w hh
   ·rename_i hi; rw [if_neg hi]; exact hQ _ f ds w hh
  | _ => exact hQ _ f ds w hh
 | .scope c, _, _, hQ, f, ds, w, h => by
  refine WC_mono c ?_ f ds w h
  intro e f ds w hh
  cases e with
  | goto _ => exact hh
  | _ => exact hQ _ f ds w hh
 | .cond c x y, _, _, hQ, f, ds, w, h => by
  simp only [WC] at h ⊢
  cases hc : ev f c <;> simp only [hc] at h ⊢
  case bool b =>
   cases b with
   | true => exact WC_mono x hQ f ds w h
   | false => exact WC_mono y hQ f ds w h
 | .region id ops draw, _, _, hQ, f, ds, w, h => by
  cases draw with
  | false => exact WOps_mono (fun f ds w hh => hQ _ f ds w hh) (fun f ds c w hh => hQ _ f ds w hh) ops.toList f ds w h
  | true => exact fun a h1 h2 h3 => wpIn_mono (h a h1 h2 h3) (lift_mono hQ)
 | .loop c, _, _, hQ, f, ds, w, h => by
  obtain ⟨α, I, μ, x, h0, hr⟩ := h
  refine ⟨α, I, μ, x, h0, fun x f ds w hI => WC_mono c ?_ f ds w (hr x f ds w hI)⟩
  intro e f ds w hh
  cases e with
  | normal => exact hh
  | _ => exact hQ _ f ds w hh
 | .rangeFunc g ps qs body, _, _, hQ, f, ds, w, h => fun a h1 h2 h3 => wpIn_mono (h a h1 h2 h3) (lift_mono hQ)
def joinQ {α : Type} (L : α → List (Nat × Value)) (I : α → World → Prop) (ds : DS) (Q : CD) : CD
 | .normal => fun f' ds' w' => ∃ x, ds' = ds ∧ agr (L x) f' ∧ I x w'
 | e => Q e
section
variable {n : Cf} {Q : CD} {f : Fr} {ds : DS} {w : World} {α : Type} {L : α → List (Nat × Value)} {I : α → World → Prop} {ds0 : DS}
theorem B4 {a : Code} {K : Fr → DS → World → Prop} (L : α → List (Nat × Value)) (I : α → World → Prop) (h1 : WC P n a (joinQ L I ds Q) f ds w) (h2 : ∀ x w' f', I x w' → K (ov (L x) f') ds w') : WC P n a (Bi K Q) f ds w := by
 refine WC_mono a ?_ f ds w h1
 intro e f' ds' w' hh
 cases e with
 | normal =>
  obtain ⟨x, rfl, ha, hI⟩ := hh
  have := h2 x w' f' hI
  rw [ov_of_agr ha] at this
  exact this
 | _ => exact hh
theorem Ap (x : α) (ha : agr (L x) f) (hI : I x w) : joinQ L I ds Q .normal f ds w := ⟨x, rfl, ha, hI⟩
instance : Nx (joinQ L I ds0 Q .ret f ds w) (0 = 0) (Q .ret f ds w) := ⟨fun _ h => h⟩
instance {i : Nat} : Nx (joinQ L I ds0 Q (.exit i) f ds w) (0 = 0) (Q (.exit i) f ds w) := ⟨fun _ h => h⟩
instance {c : List PanicEntry} : Nx (joinQ L I ds0 Q (.panic c) f ds w) (0 = 0) (Q (.panic c) f ds w) := ⟨fun _ h => h⟩
end
theorem fin_retA2 {P : Program} {fn : Func} {R : Value → World → Prop} {Y : List PanicEntry → World → Prop} {f : Fr} {w : World} {t u x T n b : Nat} {L : List Value} [hT : AggT P T n] (hr : fn.results.toList = [.cell t T, .tmp u, .tmp x]) (ha : f t = .pointer (some ⟨b, 0, none⟩)) (hl : L.length = n) (hc : Cells w b 0 L) (h : R (.tuple #[.agg L.toArray, f u, f x]) w) : Ca P fn R Y .ret f [] w :=
 ⟨rfl, by rw [hr]; exact ⟨_, _, ha, Cr hT hl hc, h⟩⟩
attribute [irreducible] joinQ
end Go.Proofs.YtfcgdbmoncnibaaGreatDoor
