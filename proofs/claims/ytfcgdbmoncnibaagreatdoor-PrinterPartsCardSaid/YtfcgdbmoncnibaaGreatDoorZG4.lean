/- The lexer: the scan of a text. The lexer: Lex, and its deferred call. The lexer: what Lex answers. The lexer: tokens read, the fixed examples. The lexer's plain law: the scan without fuel, texts that go on after a line feed. The lexer's plain law: steps of a scan, the beginning of a text. The lexer's plain law: a text behind another one. The lexer's laws: gaps. The lexer's plain law: gaps between the tokens. The lexer's plain law: tokens stand in the text. The lexer's plain law: tokens with gaps between them. The parser's plain law: formulas, the grammar and its runs. The parser's plain law: what a run leaves, runs over other tokens, over longer lists. The parser: its state, formulas in memory, the functions that look at one token. Conditions: none. -/
import Derived.Test.YtfcgdbmoncnibaaGreatDoorZG3

namespace Go.Proofs.YtfcgdbmoncnibaaGreatDoor
open Go.RowKit
set_option linter.unusedVariables false
variable {mk : Prop} [MK mk]
def inSpan (c : UInt8) (p : Nat × Nat × Nat) : Bool := decide (p.1 ≤ c.toNat) && decide (c.toNat ≤ p.2.1)
def C6 (c : UInt8) : Option Nat := (spansL.find? (inSpan c)).map (·.2.2)
def BQ (t : List UInt8) (a : Nat) (ts : List Tok) : Res :=
 match C6 (t.getD a 0) with
 | some 0 => blankM a ts
 | some 1 => commM t a ts
 | some 2 => DZ t a ts
 | some 3 => DX t a ts
 | some _ => symM t a ts
 | none => .error (40, a)
def scanF (t : List UInt8) : Nat → Nat → List Tok → Res
 | 0, a, _ => .error (40, a)
 | n + 1, a, ts => if a < t.length then (match BQ t a ts with | .ok (a', ts') => scanF t n a' ts' | .error e => .error e) else .ok (a, ts)
def scanR (t : List UInt8) : Res := scanF t (t.length + 1) 0 []
theorem Ci {t : List UInt8} {a n a' : Nat} {ts ts' : List Tok} {k : Int} (h : CY t a ts k n = .ok (a', ts')) : a' = n := by
 unfold CY at h
 split at h
 ·cases h
 ·cases h; rfl
theorem kindB_dig {c : UInt8} (h : C6 c = some 3) : Ap c = true := by
 unfold C6 at h
 obtain ⟨p, hp, hk⟩ := Option.map_eq_some_iff.1 h
 have h1 := List.find?_some hp
 have h2 := List.mem_of_find?_eq_some hp
 simp [spansL] at h2
 rcases h2 with rfl | rfl | rfl | rfl | rfl | rfl | rfl | rfl | rfl | rfl | rfl | rfl | rfl | rfl | rfl | rfl <;> simp at hk
 simpa [inSpan, Ap] using h1
theorem kindB_comm {c : UInt8} (h : C6 c = some 1) : BN c = true := by
 unfold C6 at h
 obtain ⟨p, hp, hk⟩ := Option.map_eq_some_iff.1 h
 have h1 := List.find?_some hp
 have h2 := List.mem_of_find?_eq_some hp
 simp [spansL] at h2
 rcases h2 with rfl | rfl | rfl | rfl | rfl | rfl | rfl | rfl | rfl | rfl | rfl | rfl | rfl | rfl | rfl | rfl <;> simp at hk
 simp [inSpan] at h1
 simp [BN]; omega
theorem step_on {t : List UInt8} {a a' : Nat} {ts ts' : List Tok} (hl : a < t.length) (h : BQ t a ts = .ok (a', ts')) : a < a' := by
 have hc : t[a]? = some t[a] := List.getElem?_eq_getElem hl
 generalize t[a] = c at hc
 unfold BQ at h
 rw [DQ hc] at h
 split at h
 ·cases h; omega
 ·cases h
  rw [Bd hc (kindB_comm (by assumption))]
  have := Bv BN t (a + 1); omega
 ·unfold DZ at h
  split at h
  ·cases h
  ·have := Ci h; have := Bv BD t (a + 1); omega
 ·unfold DX at h
  split at h
  ·cases h
  ·have := Ci h
   rw [Bd hc (kindB_dig (by assumption))] at this
   have := Bv Ap t (a + 1); omega
 ·unfold symM at h
  split at h
  ·rename_i y hy
   have h2 := List.mem_of_find?_eq_some hy
   have := Ci h
   have hne : ∀ y ∈ symsL, 1 ≤ y.length := by decide
   have := hne y h2; omega
  ·cases h
 ·cases h
theorem spanC_at : ∀ (l : List (Nat × Nat × Nat)) (k : Nat) (p : Nat × Nat × Nat), l[k]? = some p → ((l.flatMap spanC1).drop (k * 3)).take 3 = spanC1 p
 | [], k, p, h => by simp at h
 | q :: l, 0, p, h => by simp at h; subst h; simp [spanC1]
 | q :: l, k + 1, p, h => by
  have := spanC_at l k p (by simpa using h)
  rw [← this, List.flatMap_cons, List.drop_append, List.drop_eq_nil_of_le (by simp [spanC1]; omega), List.nil_append]
  congr 2
  simp [spanC1]; omega
def fnC (s : Nat) : List Value := [.func (.func 111) #[pt s] #[], .func (.func 112) #[pt s] #[], .func (.func 113) #[pt s] #[], .func (.func 114) #[pt s] #[], .func (.func 115) #[pt s] #[]]
theorem scan_ok (w : World) (s : Nat) (t : List UInt8) (hb : Blk w s 111 [AL t, .int .i64 0, .slice none 0 0]) (hG : GV w) (hs2 : 10 ≤ s) (hl : t.length ≤ 6000) : FnS 70 [pt s] w w s t (scanR t) := by
 have hsz := hb.lt
 refine Ar Tryz.func70 rfl Tryz.ntmps70 (Nat.le_of_ble_eq_true rfl) (by kernel_rfl) ?_
 repeat refine nx rfl ?_
 refine AA (AQ rfl (BH rfl rfl (AQ rfl (BH rfl rfl (AQ rfl (BH rfl rfl (AQ rfl (BH rfl rfl (AQ rfl (BH rfl rfl (W_buildArr (by rfl) (by rfl) ?_)))))))))))
 refine Ay (fun w1 n1 => ?_)
 refine AZ (cs := fnC s) rfl rfl rfl (by intro u hu; simp [fnC] at hu; rcases hu with rfl | rfl | rfl | rfl | rfl <;> rfl) n1.blk (by simp [fnC]) (fun w2 p2 => ?_)
 have hb2 : Blk w2 w.heap.size 165 (fnC s) := p2.blk
 have k2 : Ext w w2 := n1.keep.keep p2.keep (by simp)
 have hbs := hb.keep k2 (by simp)
 repeat refine nx rfl ?_
 have hG2 := hG.ext k2
 have hs0 : St w2 w2 s t 0 [] := ⟨Keep.refl _ _, by have := k2.size; omega, hl, by omega, by simp, _, hbs, ⟨rfl, .inl ⟨rfl, rfl⟩⟩⟩
 have hb2lt := hb2.lt
 have hfin : ∀ w' a ts, St w2 w' s t a ts → St w w' s t a ts := fun w' a ts h => by
  obtain ⟨hk, hs, hl, ha, hn, tv, hb, ho⟩ := h
  exact ⟨k2.any.trans hk fun x hx _ => hx, hsz, hl, ha, hn, tv, hb, ownsRow_mono ho k2.size⟩
 have hpan : ∀ w', Keep [s] w2 w' → Keep [s] w w' := fun w' h => k2.any.trans h fun x hx _ => hx
 refine BJ (α := Nat × Nat × List Tok) (fun _ => [(0, pt s), (2, pt w.heap.size)]) (fun x w1 => St w2 w1 s t x.2.1 x.2.2 ∧ t.length < x.1 + x.2.1 ∧ scanF t x.1 x.2.1 x.2.2 = scanR t) (fun x => x.1) (t.length + 1, 0, []) ⟨rfl, rfl, trivial⟩ ⟨hs0, by simp, rfl⟩ ?_
 rintro ⟨n, a, ts⟩ w3 f' ⟨hst, hn, hr⟩
 simp only at hst hn hr ⊢
 obtain ⟨n, rfl⟩ : ∃ m, n = m + 1 := ⟨n - 1, by have := hst.loc; omega⟩
 unfold scanF at hr
 repeat refine nx rfl ?_
 refine Bb (.read 0 (.read 1 (.read 2 (.read 3 (.read 4 (.read 5 (.read 6 (.read 7 (.read 8 (.read 9 .done)))))))))) BP (by kernel_rfl) (fun wd kd ed => ⟨fun W => W = wd, ?_, ?_⟩)
 ·rfl
 obtain ⟨hk3, hs3, _, ha3, hn3, tv3, hb3, ho3⟩ := id hst
 have hbd := hb3.keep kd (by simp)
 by_cases hlt : a < t.length
 ·rw [if_pos hlt] at hr
  ((apply D_R rfl rfl; (intro W hW; subst hW; refine AQ rfl ?_; exact Z3)) <;> (apply D_R rfl rfl; (intro W hW; subst hW; refine AH rfl ?_; exact Z3)) <;> (apply D_R rfl rfl; (intro W hW; subst hW; refine AD rfl ?_; exact Z3)) <;> (apply D_R rfl rfl; (intro W hW; subst hW; refine AG rfl (Blk.cell (by assumption) (by rfl)) ?_; exact Z3)) <;> (apply D_R rfl rfl; (intro W hW; subst hW; refine AQ rfl ?_; exact Z3)) <;> (apply D_R rfl rfl; (intro W hW; subst hW; refine AH rfl ?_; exact Z3)) <;> (apply D_R rfl rfl; (intro W hW; subst hW; refine AD rfl ?_; exact Z3)) <;> (apply D_R rfl rfl; (intro W hW; subst hW; refine AG rfl (Blk.cell (by assumption) (by rfl)) ?_; exact Z3)) <;> (apply D_R rfl rfl; (intro W hW; subst hW; refine Au rfl ?_; exact Z3)) <;> refine D_lssT rfl rfl rfl rfl (by omega) (A8 ?_))
  have hstd := hst.ext kd
  have hc : t[a]? = some t[a] := List.getElem?_eq_getElem hlt
  generalize t[a] = c at hc
  have hGd : GV wd := hG2.keep hstd.keep (by simp; omega) (by simp; omega)
  have hb2d : Blk wd w.heap.size 165 (fnC s) := hb2.keep hstd.keep (by simp; omega)
  repeat refine nx rfl ?_
  clear hbd
  refine Bb (.read 0 (.read 1 (.read 2 (.read 3 (.read 4 (.read 5 (.read 6 (.read 7 (.read 8 (.read 9 .done)))))))))) BP (by kernel_rfl) (fun wd kd ed => ⟨fun W => W = wd, ?_, ?_⟩)
  ·rfl
  have hbd := (hb3.keep (by assumption) (by simp)).keep kd (by simp)
  ((apply D_R rfl rfl; (intro W hW; subst hW; refine AQ rfl ?_; exact Z3)) <;> (apply D_R rfl rfl; (intro W hW; subst hW; refine AH rfl ?_; exact Z3)) <;> (apply D_R rfl rfl; (intro W hW; subst hW; refine AD rfl ?_; exact Z3)) <;> (apply D_R rfl rfl; (intro W hW; subst hW; refine AG rfl (Blk.cell (by assumption) (by rfl)) ?_; exact Z3)) <;> (apply D_R rfl rfl; (intro W hW; subst hW; refine AQ rfl ?_; exact Z3)) <;> (apply D_R rfl rfl; (intro W hW; subst hW; refine AH rfl ?_; exact Z3)) <;> (apply D_R rfl rfl; (intro W hW; subst hW; refine AD rfl ?_; exact Z3)) <;> (apply D_R rfl rfl; (intro W hW; subst hW; refine AG rfl (Blk.cell (by assumption) (by rfl)) ?_; exact Z3)) <;> (apply D_R rfl rfl; (intro W hW; subst hW; refine BB rfl rfl (by assumption) ?_; exact Z3)) <;> (apply D_R rfl rfl; (intro W hW; subst hW; (refine AC ?_; refine AF rfl ?_); exact Z3)) <;> refine A8 ?_)
  have hst4 := hstd.ext kd
  have hG4 := hGd.ext kd
  have hb4 := hb2d.keep kd (by simp)
  clear hbd
  repeat refine nx rfl ?_
  refine AA (Ac rfl rfl hG4.spans (AF rfl ?_))
  repeat refine nx rfl ?_
  have hst5 : BQ t a ts = match (spansL.find? (inSpan c)).map (·.2.2) with | some 0 => blankM a ts | some 1 => commM t a ts | some 2 => DZ t a ts | some 3 => DX t a ts | some _ => symM t a ts | none => .error (40, a) := by
   unfold BQ; rw [DQ hc]; rfl
  refine BJ (α := Nat) (fun k => [(0, pt s), (2, pt w.heap.size), (3, enc8 c), (36, .agg spanC.toArray), (37, .int .i64 (k : Int))]) (fun k w5 => k ≤ 16 ∧ Ext wd w5 ∧ spansL.find? (inSpan c) = (spansL.drop k).find? (inSpan c)) (fun k => 16 - k) 0 ⟨rfl, rfl, rfl, rfl, rfl, trivial⟩ ⟨by omega, Ext.refl _, rfl⟩ ?_
  rintro k w5 f5 ⟨hk, hw5, hf⟩
  have h5 := hst4.ext hw5
  repeat refine nx rfl ?_
  by_cases hlk : k < 16
  ·have hp : spansL[k]? = some spansL[k] := List.getElem?_eq_getElem hlk
   generalize spansL[k] = p at hp
   rw [find_step hp] at hf
   have hpm : p.2.2 < 5 := by
    have : ∀ p ∈ spansL, p.2.2 < 5 := by decide
    exact this p (List.mem_of_getElem? hp)
   refine AA (BC rfl rfl (by omega) ?_)
   repeat refine nx rfl ?_
   (refine AA ?_; refine W_vidx rfl rfl hlk (spanC_at _ _ _ hp) ?_; refine Ay (fun w6 n6 => ?_))
   refine AZ (cs := spanC1 p) rfl rfl rfl (by intro u hu; simp [spanC1] at hu; rcases hu with rfl | rfl | rfl <;> rfl) n6.blk (by simp [spanC1]) (fun w7 p7 => ?_)
   have b7 : Blk w7 w5.heap.size 167 (spanC1 p) := p7.blk
   have k7 : Ext w5 w7 := n6.keep.keep p7.keep (by simp)
   have h7 := h5.ext k7
   repeat refine nx rfl ?_
   have hb7 : Blk w7 w.heap.size 165 (fnC s) := (hb4.keep hw5 (by simp)).keep k7 (by simp)
   obtain ⟨p1, p2, p3⟩ := p
   simp only at hpm
   replace b7 : Blk w7 w5.heap.size 167 [.int .u8 (p1 : Int), .int .u8 (p2 : Int), .int .i64 (p3 : Int)] := b7
   by_cases c1 : p1 ≤ c.toNat
   ·by_cases c2 : c.toNat ≤ p2
    ·rw [if_pos (by simp [inSpan, c1, c2])] at hf
     (refine AA (AD rfl (AG rfl (Blk.cell (by assumption) (by rfl)) ?_)) <;> refine AF rfl (C2 rfl rfl (by omega) (AB rfl (AE rfl (AF rfl (AE rfl (AD rfl (AE rfl (AG rfl (Blk.cell (by assumption) (by rfl)) ?_)))))))) <;> refine AE rfl (C2 rfl rfl (by omega) (AK rfl (AB rfl ?_))))
     repeat refine nx rfl ?_
     obtain rfl | rfl | rfl | rfl | rfl : p3 = 0 ∨ p3 = 1 ∨ p3 = 2 ∨ p3 = 3 ∨ p3 = 4 := by omega
     ·have e0 : BQ t a ts = blankM a ts := by rw [hst5, hf]; rfl
      (refine AA (AD rfl (AG rfl (Blk.cell (by assumption) (by rfl)) ?_)) <;> refine W_indexArr rfl rfl (by omega) (by omega) (AG rfl (Blk.cell (by assumption) (by rfl)) ?_))
      refine CQ (v1 := [pt s]) (v2 := []) (vs := []) rfl (blank_ok w2 _ s a t ts h7 hlt) rfl ?_ ?_
      ·rintro v w8 ⟨rfl, a', ts', he, h8⟩
       have hee := e0.trans he
       rw [hee] at hr
       repeat refine nx rfl ?_
       exact ⟨(n, a', ts'), ⟨rfl, ⟨rfl, rfl, trivial⟩, ⟨h8, by have := step_on hlt hee; simp only; omega, hr⟩⟩, Nat.lt_succ_self _⟩
      ·rintro ch w8 ⟨e, q, he, rfl, h8⟩
       have hee := e0.trans he
       rw [hee] at hr
       repeat refine nx rfl ?_
       exact AY ⟨e, q, hr.symm, rfl, hpan _ h8⟩
     ·have e0 : BQ t a ts = commM t a ts := by rw [hst5, hf]; rfl
      (refine AA (AD rfl (AG rfl (Blk.cell (by assumption) (by rfl)) ?_)) <;> refine W_indexArr rfl rfl (by omega) (by omega) (AG rfl (Blk.cell (by assumption) (by rfl)) ?_))
      refine CQ (v1 := [pt s]) (v2 := []) (vs := []) rfl (comment_ok w2 _ s a t ts h7) rfl ?_ ?_
      ·rintro v w8 ⟨rfl, a', ts', he, h8⟩
       have hee := e0.trans he
       rw [hee] at hr
       repeat refine nx rfl ?_
       exact ⟨(n, a', ts'), ⟨rfl, ⟨rfl, rfl, trivial⟩, ⟨h8, by have := step_on hlt hee; simp only; omega, hr⟩⟩, Nat.lt_succ_self _⟩
      ·rintro ch w8 ⟨e, q, he, rfl, h8⟩
       have hee := e0.trans he
       rw [hee] at hr
       repeat refine nx rfl ?_
       exact AY ⟨e, q, hr.symm, rfl, hpan _ h8⟩
     ·have e0 : BQ t a ts = DZ t a ts := by rw [hst5, hf]; rfl
      (refine AA (AD rfl (AG rfl (Blk.cell (by assumption) (by rfl)) ?_)) <;> refine W_indexArr rfl rfl (by omega) (by omega) (AG rfl (Blk.cell (by assumption) (by rfl)) ?_))
      refine CQ (v1 := [pt s]) (v2 := []) (vs := []) rfl (scanName_ok w2 _ s a t ts h7 hlt) rfl ?_ ?_
      ·rintro v w8 ⟨rfl, a', ts', he, h8⟩
       have hee := e0.trans he
       rw [hee] at hr
       repeat refine nx rfl ?_
       exact ⟨(n, a', ts'), ⟨rfl, ⟨rfl, rfl, trivial⟩, ⟨h8, by have := step_on hlt hee; simp only; omega, hr⟩⟩, Nat.lt_succ_self _⟩
      ·rintro ch w8 ⟨e, q, he, rfl, h8⟩
       have hee := e0.trans he
       rw [hee] at hr
       repeat refine nx rfl ?_
       exact AY ⟨e, q, hr.symm, rfl, hpan _ h8⟩
     ·have e0 : BQ t a ts = DX t a ts := by rw [hst5, hf]; rfl
      (refine AA (AD rfl (AG rfl (Blk.cell (by assumption) (by rfl)) ?_)) <;> refine W_indexArr rfl rfl (by omega) (by omega) (AG rfl (Blk.cell (by assumption) (by rfl)) ?_))
      refine CQ (v1 := [pt s]) (v2 := []) (vs := []) rfl (scanNumber_ok w2 _ s a t ts h7 hlt) rfl ?_ ?_
      ·rintro v w8 ⟨rfl, a', ts', he, h8⟩
       have hee := e0.trans he
       rw [hee] at hr
       repeat refine nx rfl ?_
       exact ⟨(n, a', ts'), ⟨rfl, ⟨rfl, rfl, trivial⟩, ⟨h8, by have := step_on hlt hee; simp only; omega, hr⟩⟩, Nat.lt_succ_self _⟩
      ·rintro ch w8 ⟨e, q, he, rfl, h8⟩
       have hee := e0.trans he
       rw [hee] at hr
       repeat refine nx rfl ?_
       exact AY ⟨e, q, hr.symm, rfl, hpan _ h8⟩
     ·have e0 : BQ t a ts = symM t a ts := by rw [hst5, hf]; rfl
      (refine AA (AD rfl (AG rfl (Blk.cell (by assumption) (by rfl)) ?_)) <;> refine W_indexArr rfl rfl (by omega) (by omega) (AG rfl (Blk.cell (by assumption) (by rfl)) ?_))
      refine CQ (v1 := [pt s]) (v2 := []) (vs := []) rfl (symbol_ok w2 _ s a t ts h7 hlt hG2 hs2) rfl ?_ ?_
      ·rintro v w8 ⟨rfl, a', ts', he, h8⟩
       have hee := e0.trans he
       rw [hee] at hr
       repeat refine nx rfl ?_
       exact ⟨(n, a', ts'), ⟨rfl, ⟨rfl, rfl, trivial⟩, ⟨h8, by have := step_on hlt hee; simp only; omega, hr⟩⟩, Nat.lt_succ_self _⟩
      ·rintro ch w8 ⟨e, q, he, rfl, h8⟩
       have hee := e0.trans he
       rw [hee] at hr
       repeat refine nx rfl ?_
       exact AY ⟨e, q, hr.symm, rfl, hpan _ h8⟩
    ·rw [if_neg (by simp [inSpan, c2])] at hf
     (refine AA (AD rfl (AG rfl (Blk.cell (by assumption) (by rfl)) ?_)) <;> refine AF rfl (C2 rfl rfl (by omega) (AB rfl (AE rfl (AF rfl (AE rfl (AD rfl (AE rfl (AG rfl (Blk.cell (by assumption) (by rfl)) ?_)))))))) <;> refine AE rfl (DM rfl rfl (by omega) (AK rfl (AB rfl ?_))))
     repeat first | refine nx rfl ?_ | refine nf rfl ?_
     (refine AA (BK rfl rfl (by first | exact Am (by omega) (by omega) | exact At (by omega) (by omega) | exact Al (by omega) (by omega)) ?_) <;> refine AF rfl ?_)
     repeat refine nx rfl ?_
     refine ⟨k + 1, ⟨rfl, ⟨rfl, rfl, rfl, rfl, ?_, trivial⟩, ⟨by omega, hw5.trans k7, hf⟩⟩, by omega⟩
     show Value.int .i64 ((k : Int) + 1) = _
     rw [Int.natCast_add]; rfl
   ·rw [if_neg (by simp [inSpan, c1])] at hf
    (refine AA (AD rfl (AG rfl (Blk.cell (by assumption) (by rfl)) ?_)) <;> refine AF rfl (DM rfl rfl (by omega) (AB rfl (AI rfl (AI rfl (AI rfl (AI rfl (AP rfl (AB rfl ?_)))))))))
    repeat first | refine nx rfl ?_ | refine nf rfl ?_
    (refine AA (BK rfl rfl (by first | exact Am (by omega) (by omega) | exact At (by omega) (by omega) | exact Al (by omega) (by omega)) ?_) <;> refine AF rfl ?_)
    repeat refine nx rfl ?_
    refine ⟨k + 1, ⟨rfl, ⟨rfl, rfl, rfl, rfl, ?_, trivial⟩, ⟨by omega, hw5.trans k7, hf⟩⟩, by omega⟩
    show Value.int .i64 ((k : Int) + 1) = _
    rw [Int.natCast_add]; rfl
  ·obtain ⟨hk6, hs6, _, ha6, hn6, tv6, hb6, ho6⟩ := id h5
   refine AA (BA rfl rfl (by omega) ?_)
   repeat first | refine nx rfl ?_ | refine nf rfl ?_
   (refine AA (AQ rfl (AH rfl (AD rfl (AG rfl (Blk.cell (by assumption) (by rfl)) ?_)))) <;> refine Ad (by rfl) (by rfl) ?_ <;> refine C8 (DC rfl ?_))
   repeat refine nx rfl ?_
   have hd : spansL.drop k = [] := List.drop_eq_nil_of_le (by show 16 ≤ k; omega)
   rw [hd] at hf
   rw [hst5, hf] at hr
   exact AY ⟨_, _, hr.symm, rfl, hpan _ hk6⟩
 ·rw [if_neg hlt] at hr
  ((apply D_R rfl rfl; (intro W hW; subst hW; refine AQ rfl ?_; exact Z3)) <;> (apply D_R rfl rfl; (intro W hW; subst hW; refine AH rfl ?_; exact Z3)) <;> (apply D_R rfl rfl; (intro W hW; subst hW; refine AD rfl ?_; exact Z3)) <;> (apply D_R rfl rfl; (intro W hW; subst hW; refine AG rfl (Blk.cell (by assumption) (by rfl)) ?_; exact Z3)) <;> (apply D_R rfl rfl; (intro W hW; subst hW; refine AQ rfl ?_; exact Z3)) <;> (apply D_R rfl rfl; (intro W hW; subst hW; refine AH rfl ?_; exact Z3)) <;> (apply D_R rfl rfl; (intro W hW; subst hW; refine AD rfl ?_; exact Z3)) <;> (apply D_R rfl rfl; (intro W hW; subst hW; refine AG rfl (Blk.cell (by assumption) (by rfl)) ?_; exact Z3)) <;> (apply D_R rfl rfl; (intro W hW; subst hW; refine Au rfl ?_; exact Z3)) <;> refine D_lssF rfl rfl rfl rfl (by omega) (A8 ?_))
  repeat first | refine nx rfl ?_ | refine nf rfl ?_
  exact A1 rfl ⟨rfl, _, _, hr.symm, hfin _ _ _ (hst.ext kd)⟩
end Go.Proofs.YtfcgdbmoncnibaaGreatDoor
namespace Go.Proofs.YtfcgdbmoncnibaaGreatDoor
open Go.RowKit
set_option linter.unusedVariables false
variable {mk : Prop} [MK mk]
theorem rec_ret (w : World) (c2 c3 c4 : Nat) : CallsDIn Fence.wide 0 Tryz.prog 69 ([] ++ [pt c2, pt c3, pt c4] : List Value).toArray .returning w (fun e u' w' => match e with | .returned _ => u' = .returning ∧ Ext w w' | _ => False) := by
 refine C0 (u1 := .returning) (v0 := .nilIface) (G := fun _ w' => Ext w w') (args := [pt c2, pt c3, pt c4]) Tryz.func69 rfl Tryz.ntmps69 (by simp) (by decide) (by kernel_rfl) (by kernel_rfl) (.inl ⟨rfl, rfl, rfl⟩) ?_
 refine W_assert_nil (z := .agg #[.int .i64 0, .int .i64 0]) rfl (by kernel_rfl) ?_
 refine Bp rfl (Ag rfl rfl (Ag rfl rfl ?_))
 refine Ay (fun w1 n1 => ?_)
 refine AZ (cs := [.int .i64 0, .int .i64 0]) rfl rfl rfl (by intro u hu; simp at hu; subst hu; rfl) n1.blk (by simp) (fun w2 p2 => ?_)
 have k2 : Ext w w2 := n1.keep.keep p2.keep (by simp)
 refine AC (AB rfl ?_)
 repeat refine nx rfl ?_
 refine AA (AB rfl ?_)
 repeat first | refine nx rfl ?_ | refine nf rfl ?_
 exact A1 rfl k2
theorem rec_pan (w : World) (c2 c3 c4 : Nat) (x2 x3 x4 : Value) (e q : Int) (d2 : Blk w c2 65 [x2]) (d3 : Blk w c3 44 [x3]) (d4 : Blk w c4 3 [x4]) (h23 : c2 ≠ c3) (h24 : c2 ≠ c4) (h34 : c3 ≠ c4) :
  CallsDIn Fence.wide 0 Tryz.prog 69 ([] ++ [pt c2, pt c3, pt c4] : List Value).toArray (.panicking [{ v := .iface 107 (.agg #[.int .i64 e, .int .i64 q]), recovered := false }]) w
   (fun en u' w' => match en with | .returned _ => u' = .panicking [{ v := .iface 107 (.agg #[.int .i64 e, .int .i64 q]), recovered := true }] ∧ (Keep [c2, c3, c4] w w' ∧ Blk w' c2 65 [.slice none 0 0] ∧ Blk w' c3 44 [.int .i64 e] ∧ Blk w' c4 3 [.int .i64 q]) | _ => False) := by
 have l2 := d2.lt
 have l3 := d3.lt
 have l4 := d4.lt
 refine C0 (u1 := .panicking [{ v := .iface 107 (.agg #[.int .i64 e, .int .i64 q]), recovered := true }]) (v0 := .iface 107 (.agg #[.int .i64 e, .int .i64 q]))
  (G := fun _ w' => Keep [c2, c3, c4] w w' ∧ Blk w' c2 65 [.slice none 0 0] ∧ Blk w' c3 44 [.int .i64 e] ∧ Blk w' c4 3 [.int .i64 q]) (args := [pt c2, pt c3, pt c4]) Tryz.func69 rfl Tryz.ntmps69 (by simp) (by decide) (by kernel_rfl) (by kernel_rfl) (.inr ⟨_, rfl, rfl, rfl⟩) ?_
 refine W_assert_yes rfl ?_
 refine Bp rfl (Ag rfl rfl (Ag rfl rfl ?_))
 refine Ay (fun w1 n1 => ?_)
 refine AZ (cs := [.int .i64 e, .int .i64 q]) rfl rfl rfl (by intro u hu; simp at hu; rcases hu with rfl | rfl <;> rfl) n1.blk (by simp) (fun w2 p2 => ?_)
 have k2 : Ext w w2 := n1.keep.keep p2.keep (by simp)
 have b3 : Blk w2 w.heap.size 107 [.int .i64 e, .int .i64 q] := p2.blk
 replace d2 := d2.keep k2 (by simp)
 replace d3 := d3.keep k2 (by simp)
 replace d4 := d4.keep k2 (by simp)
 refine AC (AB rfl ?_)
 repeat refine nx rfl ?_
 refine AA (AB rfl ?_)
 repeat refine nx rfl ?_
 refine Bb (.read 0 (.read 1 (.read 2 (.read 3 (.alt 4 (.alt 5 (.alt 6 .done .stop) .stop) .stop))))) BP (by kernel_rfl) (fun wd kd ed => ⟨fun W => W.cell? ⟨w.heap.size, 0, none⟩ = some (.int .i64 e) ∧ W.cell? ⟨w.heap.size, 1, none⟩ = some (.int .i64 q), ?_, ?_⟩)
 ·exact ⟨(b3.keep kd (by simp)).cell rfl, (b3.keep kd (by simp)).cell rfl⟩
 have fc0 : ∀ W : World, (W.cell? ⟨w.heap.size, 0, none⟩ = some (.int .i64 e) ∧ W.cell? ⟨w.heap.size, 1, none⟩ = some (.int .i64 q)) → W.cell? ⟨w.heap.size, 0, none⟩ = some (.int .i64 e) := fun W h => h.1
 have fc1 : ∀ W : World, (W.cell? ⟨w.heap.size, 0, none⟩ = some (.int .i64 e) ∧ W.cell? ⟨w.heap.size, 1, none⟩ = some (.int .i64 q)) → W.cell? ⟨w.heap.size, 1, none⟩ = some (.int .i64 q) := fun W h => h.2
 replace b3 := b3.keep kd (by simp)
 replace d2 := d2.keep kd (by simp)
 replace d3 := d3.keep kd (by simp)
 replace d4 := d4.keep kd (by simp)
 have k : Keep [c2, c3, c4] w wd := (k2.trans kd).any
 refine D_R rfl rfl (fun W hW => AD rfl Z3) (D_R rfl rfl (fun W hW => AG rfl (fc0 W hW) Z3) (D_R rfl rfl (fun W hW => AD rfl Z3) (D_R rfl rfl (fun W hW => AG rfl (fc1 W hW) Z3) ?_)))
 refine D_E rfl ?_
 refine Ao rfl rfl rfl d2 (by simp) (fun W p => ?_)
 have bb := p.blk
 replace d3 := d3.keep p.keep (by simp; omega)
 replace d4 := d4.keep p.keep (by simp; omega)
 replace b3 := b3.keep p.keep (by simp; omega)
 replace k := k.trans p.keep (by simp)
 clear d2
 have d2 := bb
 clear bb p
 refine AJ ⟨_, fun _ h => h, ⟨b3.cell rfl, b3.cell rfl⟩, ?_⟩
 refine D_E rfl ?_
 refine Ao rfl rfl rfl d3 (by simp) (fun W p => ?_)
 have bb := p.blk
 replace d2 := d2.keep p.keep (by simp; omega)
 replace d4 := d4.keep p.keep (by simp; omega)
 replace b3 := b3.keep p.keep (by simp; omega)
 replace k := k.trans p.keep (by simp)
 clear d3
 have d3 := bb
 clear bb p
 refine AJ ⟨_, fun _ h => h, ⟨b3.cell rfl, b3.cell rfl⟩, ?_⟩
 refine D_E rfl ?_
 refine Ao rfl rfl rfl d4 (by simp) (fun W p => ?_)
 have bb := p.blk
 replace d2 := d2.keep p.keep (by simp; omega)
 replace d3 := d3.keep p.keep (by simp; omega)
 replace b3 := b3.keep p.keep (by simp; omega)
 replace k := k.trans p.keep (by simp)
 clear d4
 have d4 := bb
 clear bb p
 refine AJ ⟨_, fun _ h => h, ⟨b3.cell rfl, b3.cell rfl⟩, ?_⟩
 refine A8 ?_
 repeat refine nx rfl ?_
 exact A1 rfl ⟨k, d2, d3, d4⟩
end Go.Proofs.YtfcgdbmoncnibaaGreatDoor
namespace Go.Proofs.YtfcgdbmoncnibaaGreatDoor
open Go.RowKit
set_option linter.unusedVariables false
variable {mk : Prop} [MK mk]
def DK (t : List UInt8) : Except (Int × Nat) (List Tok) :=
 if 6000 < t.length then .error (2, 6000) else match scanR t with | .ok r => .ok r.2 | .error e => .error e
def LexAns (B : Nat) (w' : World) (m : Except (Int × Nat) (List Tok)) (tv : Value) (e q : Int) : Prop :=
 match m with
 | .ok ts => e = 0 ∧ q = -1 ∧ w'.ownsRow B 158 3 tv ts.length (C3 ts)
 | .error (e', p) => e = e' ∧ q = (p : Int) ∧ tv = .slice none 0 0
theorem lex_ok (w : World) (t : List UInt8) (hG : GV w) : Fn Tryz.prog 38 [AL t] w fun v w' => ∃ tv e q, v = .tuple #[tv, .int .i64 e, .int .i64 q] ∧ Ext w w' ∧ LexAns w.heap.size w' (DK t) tv e q := by
 have h2 := hG.size
 refine fn_of_wcD Tryz.func38 rfl Tryz.ntmps38 (Nat.le_of_ble_eq_true rfl) (by kernel_rfl) ?_
 repeat refine nx rfl ?_
 refine AA ?_
 refine Ay (fun w1 n1 => ?_)
 refine Ay (fun w2 n2 => ?_)
 refine Ay (fun w3 n3 => ?_)
 have z1 := n1.size
 have z2 := n2.size
 have z3 := n3.size
 have b1 : Blk w3 w.heap.size 65 [.slice none 0 0] := (n1.blk.keep n2.keep (by simp)).keep n3.keep (by simp)
 have b2 : Blk w3 w1.heap.size 44 [.int .i64 0] := n2.blk.keep n3.keep (by simp)
 have b3 : Blk w3 w2.heap.size 3 [.int .i64 0] := n3.blk
 have k3 : Ext w w3 := (n1.keep.trans n2.keep).trans n3.keep
 repeat refine nx rfl ?_
 by_cases hlen : 6000 < t.length
 ·refine AA (AU rfl (Au rfl (DI rfl rfl (by omega) ?_)))
  repeat refine nx rfl ?_
  (refine AA ?_; refine Ao rfl rfl rfl b1 (by simp) (fun w4 p4 => ?_))
  refine Ao rfl rfl rfl (b2.keep p4.keep (by simp; omega)) (by simp) (fun w5 p5 => ?_)
  refine Ao rfl rfl rfl ((b3.keep p4.keep (by simp; omega)).keep p5.keep (by simp; omega)) (by simp) (fun w6 p6 => ?_)
  have c1 : Blk w6 w.heap.size 65 [.slice none 0 0] := (p4.blk.keep p5.keep (by simp; omega)).keep p6.keep (by simp; omega)
  have c2 : Blk w6 w1.heap.size 44 [.int .i64 2] := p5.blk.keep p6.keep (by simp; omega)
  have c3 : Blk w6 w2.heap.size 3 [.int .i64 6000] := p6.blk
  have k6 : Ext w w6 := ((k3.keep p4.keep (by simp)).keep p5.keep (by simp; omega)).keep p6.keep (by simp; omega)
  repeat refine nx rfl ?_
  refine finD_ret_nil (Be rfl (c1.cell rfl) (Be rfl (c2.cell rfl) (Be rfl (c3.cell rfl) ?_)))
  refine ⟨_, _, _, rfl, k6, ?_⟩
  unfold DK
  rw [if_pos hlen]
  exact ⟨rfl, rfl, rfl⟩
 ·refine AA (AU rfl (Au rfl (DF rfl rfl (by omega) ?_)))
  repeat first | refine nx rfl ?_ | refine nf rfl ?_
  refine AA (BH rfl rfl ?_)
  refine W_defer (v1 := []) (v2 := [pt w.heap.size, pt w1.heap.size, pt w2.heap.size]) (vs := []) rfl rfl ?_
  repeat refine nx rfl ?_
  refine AA (AU rfl (Ad (by rfl) (by rfl) ?_))
  refine Bq (L := [AL t, .int .i64 0, .slice none 0 0]) rfl (fun w4 n4 => ?_)
  have z4 := n4.size
  have s4 := n4.blk
  have k4 : Ext w w4 := k3.trans n4.keep
  refine AC (AQ rfl ?_)
  repeat refine nx rfl ?_
  refine AA (AQ rfl ?_)
  have hm : DK t = match scanR t with | .ok r => .ok r.2 | .error e => .error e := by unfold DK; rw [if_neg hlen]
  refine Aa (scan_ok w4 w3.heap.size t s4 (hG.ext k4) (by omega) (by omega)) rfl ?_ ?_
  ·rintro v w5 ⟨rfl, a, ts, he, h5⟩
   obtain ⟨hk5, hs5, _, ha5, hn5, tv, hb5, ho5⟩ := h5
   repeat refine nx rfl ?_
   refine AA (AQ rfl (AH rfl (AD rfl (AG rfl (Blk.cell (by assumption) (by rfl)) ?_))))
   have e1 : Blk w5 w.heap.size 65 [.slice none 0 0] := (b1.keep n4.keep (by simp)).keep hk5 (by simp; omega)
   have e2 : Blk w5 w1.heap.size 44 [.int .i64 0] := (b2.keep n4.keep (by simp)).keep hk5 (by simp; omega)
   have e3 : Blk w5 w2.heap.size 3 [.int .i64 0] := (b3.keep n4.keep (by simp)).keep hk5 (by simp; omega)
   obtain ⟨tp, tc, rfl⟩ : ∃ tp tc, tv = .slice tp ts.length tc := by
    rcases ho5.2 with ⟨rfl, h0⟩ | ⟨g, cap, cur, rfl, _⟩
    ·exact ⟨none, 0, by rw [h0]⟩
    ·exact ⟨_, _, rfl⟩
   refine Ao rfl rfl rfl e1 (by simp) (fun w6 p6 => ?_)
   refine Ao rfl rfl rfl (e2.keep p6.keep (by simp; omega)) (by simp) (fun w7 p7 => ?_)
   refine Ao rfl rfl rfl ((e3.keep p6.keep (by simp; omega)).keep p7.keep (by simp; omega)) (by simp) (fun w8 p8 => ?_)
   have c1 : Blk w8 w.heap.size 65 [.slice tp ts.length tc] := (p6.blk.keep p7.keep (by simp; omega)).keep p8.keep (by simp; omega)
   have c2 : Blk w8 w1.heap.size 44 [.int .i64 0] := p7.blk.keep p8.keep (by simp; omega)
   have c3 : Blk w8 w2.heap.size 3 [.int .i64 (-1)] := p8.blk
   have k5 : Ext w w5 := k4.keep hk5 (by simp; omega)
   have k8 : Ext w w8 := ((k5.keep p6.keep (by simp)).keep p7.keep (by simp; omega)).keep p8.keep (by simp; omega)
   have hne : ∀ g, (Value.slice tp ts.length tc).ownBlock = some g → w4.heap.size ≤ g := fun g hg => (BM ho5 hg).1
   have o8 := Ax (Ax (Ax ho5 p6.keep fun g hg => by have := hne g hg; simp; omega) p7.keep fun g hg => by have := hne g hg; simp; omega) p8.keep fun g hg => by have := hne g hg; simp; omega
   repeat refine nx rfl ?_
   refine finD_ret_def (rec_ret _ _ _ _) fun w9 k9 => ?_
   refine Be rfl ((c1.keep k9 (by simp)).cell rfl) (Be rfl ((c2.keep k9 (by simp)).cell rfl) (Be rfl ((c3.keep k9 (by simp)).cell rfl) ?_))
   refine ⟨_, _, _, rfl, k8.trans k9, ?_⟩
   rw [hm, he]
   exact ⟨rfl, rfl, ownsRow_mono (BX o8 k9) k4.size⟩
  ·rintro ch w5 ⟨e, p, he, rfl, hk5⟩
   repeat refine nx rfl ?_
   have e1 : Blk w5 w.heap.size 65 [.slice none 0 0] := (b1.keep n4.keep (by simp)).keep hk5 (by simp; omega)
   have e2 : Blk w5 w1.heap.size 44 [.int .i64 0] := (b2.keep n4.keep (by simp)).keep hk5 (by simp; omega)
   have e3 : Blk w5 w2.heap.size 3 [.int .i64 0] := (b3.keep n4.keep (by simp)).keep hk5 (by simp; omega)
   have k5 : Ext w w5 := k4.keep hk5 (by simp; omega)
   refine finD_pan_def (rec_pan _ _ _ _ _ _ _ e (p : Int) e1 e2 e3 (by omega) (by omega) (by omega)) fun w9 h9 => ?_
   obtain ⟨k9, c1, c2, c3⟩ := h9
   refine Be rfl (c1.cell rfl) (Be rfl (c2.cell rfl) (Be rfl (c3.cell rfl) ?_))
   refine ⟨_, _, _, rfl, k5.keep k9 (by simp; omega), ?_⟩
   rw [hm, he]
   exact ⟨rfl, rfl, rfl⟩
end Go.Proofs.YtfcgdbmoncnibaaGreatDoor
namespace Go.Proofs.YtfcgdbmoncnibaaGreatDoor
open Go.RowKit
set_option linter.unusedVariables false
variable {mk : Prop} [MK mk]
def Toks (w : World) (a : Option Addr) (c : Nat) (ts : List Tok) : Prop := Sl A0 w (.slice a ts.length c) ts.length (C3 ts)
theorem addM_err {t : List UInt8} {a n p : Nat} {ts : List Tok} {k e : Int} (h : CY t a ts k n = .error (e, p)) : e = 2 ∧ p = a ∧ ts.length = 2000 := by
 unfold CY at h
 split at h
 ·cases h; exact ⟨rfl, rfl, by assumption⟩
 ·cases h
theorem stepM_err {t : List UInt8} {a p : Nat} {ts : List Tok} {e : Int} (h : BQ t a ts = .error (e, p)) : p = a ∧ (e = 40 ∨ e = 2 ∧ ts.length = 2000) := by
 unfold BQ at h
 split at h
 ·cases h
 ·cases h
 ·unfold DZ at h
  split at h
  ·cases h; exact ⟨rfl, .inl rfl⟩
  ·obtain ⟨h1, h2, h3⟩ := addM_err h; exact ⟨h2, .inr ⟨h1, h3⟩⟩
 ·unfold DX at h
  split at h
  ·cases h; exact ⟨rfl, .inl rfl⟩
  ·obtain ⟨h1, h2, h3⟩ := addM_err h; exact ⟨h2, .inr ⟨h1, h3⟩⟩
 ·unfold symM at h
  split at h
  ·obtain ⟨h1, h2, h3⟩ := addM_err h; exact ⟨h2, .inr ⟨h1, h3⟩⟩
  ·cases h; exact ⟨rfl, .inl rfl⟩
 ·cases h; exact ⟨rfl, .inl rfl⟩
theorem scanF_err (t : List UInt8) : ∀ (n a : Nat) (ts : List Tok) (e : Int) (p : Nat), scanF t n a ts = .error (e, p) → e ≠ 0
 | 0, a, ts, e, p, h => by unfold scanF at h; cases h; decide
 | n + 1, a, ts, e, p, h => by
  unfold scanF at h
  split at h
  ·cases hs : BQ t a ts with
   | ok r => rw [hs] at h; exact scanF_err t n _ _ e p h
   | error r =>
    rw [hs] at h
    cases h
    rcases (stepM_err hs).2 with rfl | ⟨rfl, _⟩ <;> decide
  ·cases h
theorem lexM_err {t : List UInt8} {e : Int} {p : Nat} (h : DK t = .error (e, p)) : e ≠ 0 := by
 unfold DK at h
 split at h
 ·cases h; decide
 ·cases hs : scanR t with
  | ok r => rw [hs] at h; cases h
  | error r => rw [hs] at h; cases h; exact scanF_err t _ _ _ _ _ hs
theorem lexC (w : World) (t : List UInt8) (hG : GV w) : Fn Tryz.prog 38 [AL t] w fun v w' => ∃ a c e q ts, v = .tuple #[.slice a ts.length c, .int .i64 e, .int .i64 q] ∧ Ext w w' ∧ Toks w' a c ts ∧
  ((DK t = .ok ts ∧ e = 0 ∧ q = -1) ∨ ∃ p : Nat, DK t = .error (e, p) ∧ e ≠ 0 ∧ q = (p : Int) ∧ ts = []) := by
 refine (lex_ok w t hG).mono ?_
 rintro v w' ⟨tv, e, q, rfl, k, h⟩
 unfold LexAns at h
 cases hm : DK t with
 | ok ts =>
  rw [hm] at h
  obtain ⟨rfl, rfl, ho⟩ := h
  have hs := A3 (ok := A0) ho fun _ _ => trivial
  obtain ⟨a, c, rfl, hr⟩ := id hs
  exact ⟨a, c, 0, -1, ts, rfl, k, hs, .inl ⟨rfl, rfl, rfl⟩⟩
 | error r =>
  obtain ⟨e', p⟩ := r
  rw [hm] at h
  obtain ⟨rfl, rfl, rfl⟩ := h
  exact ⟨none, 0, e, p, [], rfl, k, ⟨_, _, rfl, by simp, by omega, fun _ => rfl, .inl rfl⟩, .inr ⟨p, rfl, lexM_err hm, rfl, rfl⟩⟩
theorem lexK (w : World) (t : List UInt8) (ts : List Tok) (n : Nat) (hm : DK t = .ok ts) (hn : ts.length = n) (hG : GV w) :
  Fn Tryz.prog 38 [AL t] w fun v w' => ∃ a c, v = .tuple #[.slice a n c, .int .i64 0, .int .i64 (-1)] ∧ Ext w w' ∧ Toks w' a c ts := by
 refine (lexC w t hG).mono ?_
 rintro v w' ⟨a, c, e, q, ts', rfl, k, h, ⟨h1, rfl, rfl⟩ | ⟨p, h1, _⟩⟩
 ·rw [hm] at h1; cases h1; subst hn; exact ⟨a, c, rfl, k, h⟩
 ·rw [hm] at h1; cases h1
end Go.Proofs.YtfcgdbmoncnibaaGreatDoor
namespace Go.Proofs.YtfcgdbmoncnibaaGreatDoor
set_option linter.unusedVariables false
variable {mk : Prop} [MK mk]
theorem addM_le {t : List UInt8} {a n a' : Nat} {ts ts' : List Tok} {k : Int} (h : CY t a ts k n = .ok (a', ts')) : ts' = ts ++ [⟨k, (t.take n).drop a, a⟩] ∧ ts.length ≠ 2000 := by
 unfold CY at h
 split at h
 ·cases h
 ·cases h; exact ⟨rfl, by assumption⟩
theorem step_le {t : List UInt8} {a a' : Nat} {ts ts' : List Tok} (hl : a < t.length) (h : BQ t a ts = .ok (a', ts')) : a' ≤ t.length := by
 unfold BQ at h
 split at h
 ·cases h; omega
 ·cases h; exact Bk (by omega)
 ·unfold DZ at h
  split at h
  ·cases h
  ·have := Ci h; have := Bk (p := BD) (t := t) (a := a + 1) (by omega); omega
 ·unfold DX at h
  split at h
  ·cases h
  ·have := Ci h; have := Bk (p := Ap) (t := t) (a := a) (by omega); omega
 ·unfold symM at h
  split at h
  ·rename_i y hy
   have h2 := List.find?_some hy
   have := Ci h
   have := ((Cc _ _).1 h2).length_le
   simp at this; omega
  ·cases h
 ·cases h
theorem scanF_fuel (t : List UInt8) : ∀ (n m a : Nat) (ts : List Tok), a ≤ t.length → t.length < n + a → t.length < m + a → scanF t n a ts = scanF t m a ts
 | 0, _, _, _, h, h1, _ => by omega
 | _, 0, _, _, h, _, h2 => by omega
 | n + 1, m + 1, a, ts, h, h1, h2 => by
  unfold scanF
  split
  ·cases hs : BQ t a ts with
   | ok r =>
    have e1 := step_on (by assumption) hs
    have e2 := step_le (by assumption) hs
    exact scanF_fuel t n m r.1 r.2 e2 (by omega) (by omega)
   | error e => rfl
  ·rfl
def scanW (t : List UInt8) (a : Nat) (ts : List Tok) : Res := scanF t (t.length + 1 - a) a ts
theorem scanW_end {t : List UInt8} {ts : List Tok} : scanW t t.length ts = .ok (t.length, ts) := by
 unfold scanW
 rw [show t.length + 1 - t.length = 0 + 1 by omega]
 unfold scanF
 rw [if_neg (by omega)]
theorem C1 {t : List UInt8} {a : Nat} {ts : List Tok} (h : a < t.length) : scanW t a ts = match BQ t a ts with | .ok r => scanW t r.1 r.2 | .error e => .error e := by
 unfold scanW
 rw [show t.length + 1 - a = (t.length - a) + 1 by omega]
 conv => lhs; unfold scanF
 rw [if_pos h]
 cases hs : BQ t a ts with
 | ok r =>
  have e1 := step_on h hs
  have e2 := step_le h hs
  exact scanF_fuel t _ _ r.1 r.2 e2 (by omega) (by omega)
 | error e => rfl
theorem scanR_eq (t : List UInt8) : scanR t = scanW t 0 [] := rfl
theorem lexM_of {t : List UInt8} (h : t.length ≤ 6000) : DK t = match scanW t 0 [] with | .ok r => .ok r.2 | .error e => .error e := by
 unfold DK; rw [if_neg (by omega), scanR_eq] <;> cases scanW t 0 [] <;> rfl
end Go.Proofs.YtfcgdbmoncnibaaGreatDoor
namespace Go.Proofs.YtfcgdbmoncnibaaGreatDoor
set_option linter.unusedVariables false
variable {mk : Prop} [MK mk]
inductive Reach1 (t : List UInt8) : Nat → List Tok → Nat → List Tok → Prop
 | refl (a : Nat) (ts : List Tok) : Reach1 t a ts a ts
 | step {a a1 b : Nat} {ts ts1 tsb : List Tok} (h : a < t.length) (hs : BQ t a ts = .ok (a1, ts1)) (hr : Reach1 t a1 ts1 b tsb) : Reach1 t a ts b tsb
theorem step_shape {t : List UInt8} {a a1 : Nat} {ts ts1 : List Tok} (h : BQ t a ts = .ok (a1, ts1)) : ts1 = ts ∨ ∃ k, ts1 = ts ++ [⟨k, (t.take a1).drop a, a⟩] := by
 unfold BQ at h
 split at h
 ·cases h; exact .inl rfl
 ·cases h; exact .inl rfl
 ·unfold DZ at h
  split at h
  ·cases h
  ·have e := Ci h; subst e; exact .inr ⟨_, (addM_le h).1⟩
 ·unfold DX at h
  split at h
  ·cases h
  ·have e := Ci h; subst e; exact .inr ⟨_, (addM_le h).1⟩
 ·unfold symM at h
  split at h
  ·have e := Ci h; subst e; exact .inr ⟨_, (addM_le h).1⟩
  ·cases h
 ·cases h
theorem reach_of_scan {t : List UInt8} : ∀ (m a : Nat) (ts : List Tok), t.length - a ≤ m → a ≤ t.length →
  (∃ tsb, scanW t a ts = .ok (t.length, tsb) ∧ Reach1 t a ts t.length tsb) ∨ ∃ e p tsp, scanW t a ts = .error (e, p) ∧ Reach1 t a ts p tsp ∧ p < t.length ∧ BQ t p tsp = .error (e, p) := by
 intro m
 induction m with
 | zero =>
  intro a ts hm ha
  obtain rfl : a = t.length := by omega
  exact .inl ⟨ts, scanW_end, .refl _ _⟩
 | succ m ih =>
  intro a ts hm ha
  by_cases h : a < t.length
  ·rw [C1 h]
   cases hs : BQ t a ts with
   | ok r =>
    have e1 := step_on h hs
    have e2 := step_le h hs
    rcases ih r.1 r.2 (by omega) e2 with ⟨tsb, h1, h2⟩ | ⟨e, p, tsp, h1, h2, h3, h4⟩
    ·exact .inl ⟨tsb, h1, .step h hs h2⟩
    ·exact .inr ⟨e, p, tsp, h1, .step h hs h2, h3, h4⟩
   | error r =>
    obtain ⟨e, p⟩ := r
    obtain ⟨rfl, _⟩ := stepM_err hs
    exact .inr ⟨e, p, ts, rfl, .refl _ _, h, hs⟩
  ·obtain rfl : a = t.length := by omega
   exact .inl ⟨ts, scanW_end, .refl _ _⟩
theorem takeWhile_take {q : UInt8 → Bool} : ∀ (l : List UInt8) (m : Nat), (l.takeWhile q).length ≤ m → ((l.take m).takeWhile q).length = (l.takeWhile q).length
 | [], m, _ => by simp
 | x :: l, 0, h => by simp at h ⊢; cases hq : q x <;> simp_all
 | x :: l, m + 1, h => by
  rw [List.take_succ_cons, List.takeWhile_cons, List.takeWhile_cons] at *
  cases hq : q x with
  | false => simp
  | true => simp [hq] at h ⊢; exact takeWhile_take l m h
theorem whileB_take {q : UInt8 → Bool} {t : List UInt8} {a p : Nat} (h : Aj q t a ≤ p) : Aj q (t.take p) a = Aj q t a := by
 unfold Aj at *
 rw [List.drop_take, takeWhile_take _ _ (by omega)]
theorem addM_take {t : List UInt8} {a n p : Nat} {ts : List Tok} {k : Int} (h : n ≤ p) : CY (t.take p) a ts k n = CY t a ts k n := by
 unfold CY; rw [List.take_take, Nat.min_eq_left h]
theorem getD_take {t : List UInt8} {a p : Nat} (h : a < p) : (t.take p).getD a 0 = t.getD a 0 := by
 simp [List.getD_eq_getElem?_getD, h]
theorem find_same {α : Type} {f g : α → Bool} {l : List α} {y : α} (h : l.find? f = some y) (hy : g y = true) (hg : ∀ z, g z = true → f z = true) : l.find? g = some y := by
 induction l with
 | nil => cases h
 | cons x l ih =>
  rw [List.find?_cons] at h ⊢
  cases hx : f x with
  | true => rw [hx] at h; cases h; rw [hy]
  | false =>
   rw [hx] at h
   have : g x = false := by cases hgx : g x with | false => rfl | true => rw [hg x hgx] at hx; cases hx
   rw [this]; exact ih h
theorem numBad_take {t : List UInt8} {a p : Nat} (hp : p ≤ t.length) (ha : a < p) (hn : Aj Ap t a ≤ p) (h : BL t a = false) : BL (t.take p) a = false := by
 unfold BL at *
 rw [whileB_take hn, getD_take ha]
 rw [Bool.or_eq_false_iff] at h ⊢
 refine ⟨h.1, ?_⟩
 by_cases hlt : Aj Ap t a < p
 ·rw [getD_take hlt]
  have h2 := h.2
  rw [decide_eq_true (show Aj Ap t a < t.length by omega)] at h2
  rw [Bool.true_and] at h2
  rw [h2]; simp
 ·rw [decide_eq_false (by simp; omega)]; rfl
theorem step_take {t : List UInt8} {a a1 p : Nat} {ts ts1 : List Tok} (hp : p ≤ t.length) (hl : a < t.length) (hs : BQ t a ts = .ok (a1, ts1)) (h1 : a1 ≤ p) : BQ (t.take p) a ts = .ok (a1, ts1) := by
 have hon := step_on hl hs
 have hap : a < p := by omega
 unfold BQ at hs ⊢
 rw [getD_take hap]
 split at hs
 ·exact hs
 ·cases hs
  simp only [commM]
  rw [whileB_take h1]
 ·unfold DZ at hs ⊢
  split at hs
  ·cases hs
  ·have e := Ci hs
   subst e
   rw [whileB_take h1, if_neg (by assumption), addM_take h1]; exact hs
 ·unfold DX at hs ⊢
  split at hs
  ·cases hs
  ·rename_i hb
   have e := Ci hs
   subst e
   rw [whileB_take h1, if_neg (by rw [numBad_take hp hap h1 (by simpa using hb)]; simp), addM_take h1]; exact hs
 ·unfold symM at hs ⊢
  split at hs
  ·rename_i y hy
   have e := Ci hs
   have hpy := (Cc _ _).1 (List.find?_some hy)
   have hf : symsL.find? (Br ((t.take p).drop a)) = some y := by
    refine find_same hy ((Cc _ _).2 ?_) fun z hz => (Cc _ _).2 ?_
    ·rw [List.drop_take]
     exact List.prefix_of_prefix_length_le hpy (List.take_prefix _ _) (by have := hpy.length_le; simp at this ⊢; omega) |> fun h => h
    ·have := (Cc _ _).1 hz
     rw [List.drop_take] at this
     exact this.trans (List.take_prefix _ _)
   rw [hf]
   simp only
   rw [addM_take (by omega)]; exact hs
  ·cases hs
 ·cases hs
theorem lexM_ok {t : List UInt8} {ts : List Tok} (h : DK t = .ok ts) : t.length ≤ 6000 ∧ Reach1 t 0 [] t.length ts := by
 have hl : t.length ≤ 6000 := by
  unfold DK at h
  split at h
  ·cases h
  ·omega
 refine ⟨hl, ?_⟩
 rw [lexM_of hl] at h
 rcases reach_of_scan (t := t) t.length 0 [] (by omega) (by omega) with ⟨tsb, h1, h2⟩ | ⟨e, p, tsp, h1, _⟩
 ·rw [h1] at h; cases h; exact h2
 ·rw [h1] at h; cases h
end Go.Proofs.YtfcgdbmoncnibaaGreatDoor
namespace Go.Proofs.YtfcgdbmoncnibaaGreatDoor
set_option linter.unusedVariables false
variable {mk : Prop} [MK mk]
def shT (m : Nat) (x : Tok) : Tok := ⟨x.kind, x.text, x.loc + m⟩
theorem drop_sh (v u : List UInt8) (a : Nat) : (v ++ u).drop (v.length + a) = u.drop a := by
 rw [List.drop_append]; simp
theorem DB {q : UInt8 → Bool} (v u : List UInt8) (a : Nat) : Aj q (v ++ u) (v.length + a) = v.length + Aj q u a := by
 unfold Aj; rw [drop_sh]; omega
theorem take_sh (v u : List UInt8) (a n : Nat) : ((v ++ u).take (v.length + n)).drop (v.length + a) = (u.take n).drop a := by
 rw [List.take_append]
 rw [List.take_of_length_le (by omega), show v.length + n - v.length = n by omega, drop_sh]
theorem getD_sh (v u : List UInt8) (a : Nat) : (v ++ u).getD (v.length + a) 0 = u.getD a 0 := by
 simp [List.getD_eq_getElem?_getD, List.getElem?_append_right]
theorem addM_sh {v u : List UInt8} {a n a1 : Nat} {ts ts' ts1 : List Tok} {k : Int} (h : CY u a ts' k n = .ok (a1, ts1)) (hc : ts.length + ts1.length ≤ 2000) :
  CY (v ++ u) (v.length + a) (ts ++ ts'.map (shT v.length)) k (v.length + n) = .ok (v.length + a1, ts ++ ts1.map (shT v.length)) := by
 have e := Ci h
 obtain ⟨e1, e2⟩ := addM_le h
 subst e
 subst e1
 unfold CY
 rw [if_neg (by simp at hc ⊢; omega), take_sh]
 simp [shT, Nat.add_comm]
theorem numBad_sh (v u : List UInt8) (a : Nat) : BL (v ++ u) (v.length + a) = BL u a := by
 unfold BL
 rw [DB, getD_sh, getD_sh]
 rw [show v.length + Aj Ap u a - (v.length + a) = Aj Ap u a - a by omega]
 have e : decide (v.length + Aj Ap u a < (v ++ u).length) = decide (Aj Ap u a < u.length) := by simp
 rw [e]
theorem step_sh {v u : List UInt8} {a a1 : Nat} {ts ts' ts1 : List Tok} (h : BQ u a ts' = .ok (a1, ts1)) (hc : ts.length + ts1.length ≤ 2000) :
  BQ (v ++ u) (v.length + a) (ts ++ ts'.map (shT v.length)) = .ok (v.length + a1, ts ++ ts1.map (shT v.length)) := by
 unfold BQ at h ⊢
 rw [getD_sh]
 split at h
 ·cases h; simp [blankM]; omega
 ·cases h; simp [commM, DB]
 ·unfold DZ at h ⊢
  split at h
  ·cases h
  ·rw [show v.length + a + 1 = v.length + (a + 1) by omega, DB, if_neg (by omega)]
   exact addM_sh h hc
 ·unfold DX at h ⊢
  split at h
  ·cases h
  ·rw [numBad_sh, if_neg (by assumption), DB]
   exact addM_sh h hc
 ·unfold symM at h ⊢
  rw [drop_sh]
  split at h
  ·rename_i y hy
   rw [show v.length + a + y.length = v.length + (a + y.length) by omega]
   exact addM_sh h hc
  ·cases h
 ·cases h
end Go.Proofs.YtfcgdbmoncnibaaGreatDoor
namespace Go.Proofs.YtfcgdbmoncnibaaGreatDoor
open Go.RowKit
set_option linter.unusedVariables false
variable {mk : Prop} [MK mk]
def isBlank (c : UInt8) : Bool := decide (c.toNat = 32) || decide (c.toNat = 9) || decide (c.toNat = 10) || decide (c.toNat = 13)
theorem blankB_ok (c : UInt8) (w : World) : Fn Tryz.prog 133 [enc8 c] w fun v w' => v = .bool (isBlank c) ∧ w' = w := by
 refine Ab Tryz.func133 rfl Tryz.ntmps133 (Nat.le_of_ble_eq_true rfl) (by kernel_rfl) ?_
 repeat refine nx rfl ?_
 refine AA (AC (AB rfl ?_))
 repeat refine nx rfl ?_
 (refine AA (AF rfl ?_) <;> (refine B0 rfl rfl (fun hc => ?_) (fun hc => ?_) <;> try omega) <;> refine AB rfl ?_ <;> (first | refine AI rfl ?_ | (refine AE rfl ?_; refine AF rfl ?_)) <;> (first | refine AI rfl ?_ | (refine AE rfl ?_; (refine B0 rfl rfl (fun hc => ?_) (fun hc => ?_) <;> try omega))) <;> ((first | refine AK rfl ?_ | refine AP rfl ?_); refine AB rfl ?_) <;> refine AB rfl ?_ <;> (first | refine AI rfl ?_ | (refine AE rfl ?_; refine AF rfl ?_)) <;> (first | refine AI rfl ?_ | (refine AE rfl ?_; (refine B0 rfl rfl (fun hc => ?_) (fun hc => ?_) <;> try omega))) <;> ((first | refine AK rfl ?_ | refine AP rfl ?_); refine AB rfl ?_) <;> refine AB rfl ?_ <;> (first | refine AI rfl ?_ | (refine AE rfl ?_; refine AF rfl ?_)) <;> (first | refine AI rfl ?_ | (refine AE rfl ?_; (refine B0 rfl rfl (fun hc => ?_) (fun hc => ?_) <;> try omega))) <;> ((first | refine AK rfl ?_ | refine AP rfl ?_); refine AB rfl ?_) <;> refine AC (AB rfl (AJ ?_)))
 all_goals
  repeat refine nx rfl ?_
  exact AO rfl ⟨by simp [isBlank, upd, Nat.beq]; omega, rfl⟩
def gapF (t : List UInt8) : Nat → Nat → Nat
 | 0, a => a
 | n + 1, a => if a < t.length then (if (t.getD a 0).toNat = 37 then gapF t n (Aj BN t a) else if isBlank (t.getD a 0) = true then gapF t n (a + 1) else a) else a
theorem gapF_fuel (t : List UInt8) : ∀ (n m a : Nat), a ≤ t.length → t.length < n + a → t.length < m + a → gapF t n a = gapF t m a
 | 0, _, _, h, h1, _ => by omega
 | _, 0, _, h, _, h2 => by omega
 | n + 1, m + 1, a, h, h1, h2 => by
  unfold gapF
  split
  ·rename_i hl
   split
   ·rename_i h37
    have hc : t[a]? = some t[a] := List.getElem?_eq_getElem hl
    have hle := Bk (p := BN) (t := t) (a := a) (by omega)
    have hst := Bd (p := BN) hc (by rw [DQ hc] at h37; simp [BN, h37])
    have hge := Bv BN t (a + 1)
    exact gapF_fuel t n m _ hle (by omega) (by omega)
   ·split
    ·exact gapF_fuel t n m _ (by omega) (by omega) (by omega)
    ·rfl
  ·rfl
def gapW (t : List UInt8) (a : Nat) : Nat := gapF t (t.length + 1 - a) a
theorem gapW_end {t : List UInt8} : gapW t t.length = t.length := by
 unfold gapW
 rw [show t.length + 1 - t.length = 0 + 1 by omega]
 unfold gapF
 rw [if_neg (by omega)]
theorem gapW_step {t : List UInt8} {a : Nat} {c : UInt8} (hc : t[a]? = some c) : gapW t a = if c.toNat = 37 then gapW t (Aj BN t a) else if isBlank c = true then gapW t (a + 1) else a := by
 have hl : a < t.length := (List.getElem?_eq_some_iff.1 hc).1
 unfold gapW
 rw [show t.length + 1 - a = (t.length - a) + 1 by omega]
 conv => lhs; unfold gapF
 rw [if_pos hl, DQ hc]
 split
 ·rename_i h37
  have hle := Bk (p := BN) (t := t) (a := a) (by omega)
  have hst := Bd (p := BN) hc (by simp [BN, h37])
  have hge := Bv BN t (a + 1)
  exact gapF_fuel t _ _ _ hle (by omega) (by omega)
 ·split
  ·exact gapF_fuel t _ _ _ (by omega) (by omega) (by omega)
  ·rfl
end Go.Proofs.YtfcgdbmoncnibaaGreatDoor
namespace Go.Proofs.YtfcgdbmoncnibaaGreatDoor
set_option linter.unusedVariables false
variable {mk : Prop} [MK mk]
theorem kindB_0 {c : UInt8} (h : C6 c = some 0) : c.toNat ≠ 37 ∧ isBlank c = true := by
 unfold C6 at h
 obtain ⟨p, hp, hk⟩ := Option.map_eq_some_iff.1 h
 have h1 := List.find?_some hp
 have h2 := List.mem_of_find?_eq_some hp
 simp [spansL] at h2
 rcases h2 with rfl | rfl | rfl | rfl | rfl | rfl | rfl | rfl | rfl | rfl | rfl | rfl | rfl | rfl | rfl | rfl <;> simp at hk
 all_goals
  simp [inSpan] at h1
  simp [isBlank]
  omega
theorem kindB_1 {c : UInt8} (h : C6 c = some 1) : c.toNat = 37 := by
 unfold C6 at h
 obtain ⟨p, hp, hk⟩ := Option.map_eq_some_iff.1 h
 have h1 := List.find?_some hp
 have h2 := List.mem_of_find?_eq_some hp
 simp [spansL] at h2
 rcases h2 with rfl | rfl | rfl | rfl | rfl | rfl | rfl | rfl | rfl | rfl | rfl | rfl | rfl | rfl | rfl | rfl <;> simp at hk
 simp [inSpan] at h1
 omega
theorem gapF_sh (v u : List UInt8) : ∀ (n j : Nat), gapF (v ++ u) n (v.length + j) = v.length + gapF u n j
 | 0, j => rfl
 | n + 1, j => by
  unfold gapF
  rw [getD_sh, DB, Nat.add_assoc, gapF_sh v u n, gapF_sh v u n]
  have e : (v.length + j < (v ++ u).length) = (j < u.length) := by simp
  simp only [e]
  split
  ·split
   ·rfl
   ·split <;> rfl
  ·rfl
theorem gapW_sh (v u : List UInt8) (j : Nat) (hj : j ≤ u.length) : gapW (v ++ u) (v.length + j) = v.length + gapW u j := by
 unfold gapW
 rw [← gapF_sh, show (v ++ u).length + 1 - (v.length + j) = u.length + 1 - j by simp; omega]
end Go.Proofs.YtfcgdbmoncnibaaGreatDoor
namespace Go.Proofs.YtfcgdbmoncnibaaGreatDoor
set_option linter.unusedVariables false
variable {mk : Prop} [MK mk]
end Go.Proofs.YtfcgdbmoncnibaaGreatDoor
namespace Go.Proofs.YtfcgdbmoncnibaaGreatDoor
set_option linter.unusedVariables false
variable {mk : Prop} [MK mk]
theorem addM_un {v u : List UInt8} {a1 n : Nat} {ts : List Tok} {x : Tok} {k : Int} (h : CY (v ++ u) v.length ts k (v.length + n) = .ok (a1, ts ++ [x])) :
  CY u 0 [] k n = .ok (a1 - v.length, [⟨x.kind, x.text, 0⟩]) := by
 have e := Ci h
 obtain ⟨e1, e2⟩ := addM_le h
 subst e
 have := List.append_cancel_left e1
 simp at this
 subst this
 unfold CY
 have := take_sh v u 0 n
 simp at this
 simp [this]
theorem step_un {v u : List UInt8} {a1 : Nat} {ts : List Tok} {x : Tok} (h : BQ (v ++ u) v.length ts = .ok (a1, ts ++ [x])) :
  C6 (u.getD 0 0) ≠ some 1 ∧ BQ u 0 [] = .ok (a1 - v.length, [⟨x.kind, x.text, 0⟩]) := by
 unfold BQ at h ⊢
 have hg := getD_sh v u 0
 simp only [Nat.add_zero] at hg
 rw [hg] at h
 split at h
 ·simp [blankM] at h
 ·simp [commM] at h
 ·rename_i hk
  rw [hk]
  refine ⟨by simp, ?_⟩
  unfold DZ at h ⊢
  have hw := DB (q := BD) v u 1
  split at h
  ·cases h
  ·rename_i hn
   rw [hw] at h hn
   rw [if_neg (by simp only [Nat.zero_add]; omega)]
   exact addM_un h
 ·rename_i hk
  simp only [hk]
  refine ⟨by simp, ?_⟩
  unfold DX at h ⊢
  have hw := DB (q := Ap) v u 0
  have hb := numBad_sh v u 0
  simp only [Nat.add_zero] at hw hb
  rw [hb, hw] at h
  split at h
  ·cases h
  ·rename_i hn
   rw [if_neg hn]
   exact addM_un h
 ·rename_i k h0 h1 h2 h3 hk
  rw [hk]
  refine ⟨fun e => h1 (Option.some.inj e), ?_⟩
  unfold symM at h ⊢
  have hd := drop_sh v u 0
  simp only [Nat.add_zero, List.drop_zero] at hd
  rw [hd] at h
  split at h
  ·rename_i y hy
   rw [List.drop_zero, hy]
   simp only [Nat.zero_add]
   exact addM_un h
  ·cases h
 ·cases h
structure Alone (k : Int) (y : List UInt8) : Prop where
 pos : 1 ≤ y.length
 kind : C6 (y.getD 0 0) ≠ some 1
 step : BQ y 0 [] = .ok (y.length, [⟨k, y, 0⟩])
theorem Reach1.alone {t : List UInt8} {a b : Nat} {ts tsb : List Tok} (h : Reach1 t a ts b tsb) (hb : b ≤ t.length) (hA : ∀ x ∈ ts, Alone x.kind x.text) : ∀ x ∈ tsb, Alone x.kind x.text := by
 induction h with
 | refl => exact hA
 | step h hs hr ih =>
  rename_i a a1 b ts ts1 tsb
  refine ih hb ?_
  have h0 := step_on h hs
  have h1 := step_le h hs
  rcases step_shape hs with rfl | ⟨k, rfl⟩
  ·exact hA
  ·intro x hx
   rcases List.mem_append.1 hx with hx | hx
   ·exact hA x hx
   ·simp at hx
    subst hx
    have g := step_take (p := a1) h1 h hs (Nat.le_refl _)
    have hv : (t.take a).length = a := by simp; omega
    have et : t.take a1 = t.take a ++ (t.take a1).drop a := by
     have : t.take a = (t.take a1).take a := by rw [List.take_take, Nat.min_eq_left (by omega)]
     rw [this, List.take_append_drop]
    generalize hy : (t.take a1).drop a = y at et g ⊢
    have hyl : y.length = a1 - a := by rw [← hy]; simp; omega
    rw [et] at g
    have g' : BQ (t.take a ++ y) (t.take a).length ts = .ok (a1, ts ++ [⟨k, y, a⟩]) := by rw [hv]; exact g
    obtain ⟨g1, g2⟩ := step_un g'
    rw [hv, ← hyl] at g2
    exact ⟨by simp only; omega, g1, g2⟩
def bare (x : Tok) : Int × List UInt8 := (x.kind, x.text)
end Go.Proofs.YtfcgdbmoncnibaaGreatDoor
namespace Go.Proofs.YtfcgdbmoncnibaaGreatDoor
set_option linter.unusedVariables false
variable {mk : Prop} [MK mk]
inductive Fml where
 | mk (op : Int) (name : List UInt8) (val bound : Int) (args : List Fml)
def Fml.op : Fml → Int | .mk o _ _ _ _ => o
def Fml.name : Fml → List UInt8 | .mk _ n _ _ _ => n
def Fml.val : Fml → Int | .mk _ _ v _ _ => v
def Fml.bound : Fml → Int | .mk _ _ _ b _ => b
def Fml.args : Fml → List Fml | .mk _ _ _ _ a => a
def zeroF : Fml := ⟨0, [], 0, 0, []⟩
structure Sgn where
 name : List UInt8
 input : Bool
 size : Int
structure Rqm where
 part : List UInt8
 name : List UInt8
 kind : Int
 formula : Fml
structure Spc where
 sigs : List Sgn
 reqs : List Rqm
structure Edt where
 kind : Int
 req : Rqm
structure Opr where
 op : Int
 indexed : Int
 val : Int
deriving DecidableEq
inductive NT where
 | formula | orN | orL | andN | andL | untilN | unary | primary | req | line | lines | part | parts | signal | sigs | spec | edit
abbrev NT.T : NT → Type
 | .formula | .orN | .andN | .untilN | .unary | .primary => Fml
 | .orL | .andL => List Fml
 | .req | .line => Rqm
 | .lines | .part => List Rqm
 | .parts => List (List Rqm)
 | .signal => Sgn
 | .sigs => List Sgn
 | .spec => Spc
 | .edit => Edt
abbrev BT := Int × List UInt8
inductive G (α : Type) : Type where
 | ret (a : α)
 | fail
 | look (k : Option BT → G α)
 | next (g : G α)
 | call (nt : NT) (k : nt.T → G α)
def G.bind {α β : Type} : G α → (α → G β) → G β
 | .ret a, f => f a
 | .fail, _ => .fail
 | .look k, f => .look fun o => (k o).bind f
 | .next g, f => .next (g.bind f)
 | .call nt k, f => .call nt fun v => (k v).bind f
abbrev Ans (α : Type) := Except (List Tok) (α × List Tok)
def evG (rec : (nt : NT) → List Tok → Option (Ans nt.T)) {α : Type} : G α → List Tok → Option (Ans α)
 | .ret a, l => some (.ok (a, l))
 | .fail, l => some (.error l)
 | .look k, l => evG rec (k (l.head?.map bare)) l
 | .next g, l => evG rec g l.tail
 | .call nt k, l => match rec nt l with
  | none => none
  | some (.error e) => some (.error e)
  | some (.ok (v, l')) => evG rec (k v) l'
def Aw (s : List UInt8) : Option BT → Bool
 | some x => !decide (x.1 = 2) && decide (x.2 = s)
 | none => false
def BU (s : List UInt8) : G Bool := .look fun o => if Aw s o = true then .next (.ret true) else .ret false
def B7 (s : List UInt8) : G Unit := .look fun o => if Aw s o = true then .next (.ret ()) else .fail
def keysL : List (List UInt8) := [[105, 110, 112, 117, 116], [111, 117, 116, 112, 117, 116], [112, 97, 114, 116], [97, 115, 115, 117, 109, 101], [103, 117, 97, 114, 97, 110, 116, 101, 101], [116, 114, 117, 101], [102, 97, 108, 115, 101], [97, 100, 100], [100, 114, 111, 112], [114, 101, 112, 108, 97, 99, 101]]
def restB (c : UInt8) : Bool := A4 c || Ap c || decide (c.toNat = 95)
def BV (s : List UInt8) : Bool :=
 decide (1 ≤ s.length) && decide (s.length ≤ 12) && A4 (s.getD 0 0) && s.all restB && !decide (s ∈ keysL)
def nameG : G (List UInt8) := .look fun o => match o with
 | some x => if decide (x.1 = 1) && BV x.2 then .next (.ret x.2) else .fail
 | none => .fail
def Da (s : List UInt8) : Int := s.foldl (fun n c => 10 * n + ((c.toNat : Int) - 48)) 0
def numberG : G Int := .look fun o => match o with
 | some x => if decide (x.1 = 2) then .next (.ret (Da x.2)) else .fail
 | none => .fail
def prefixT : List (List UInt8 × Opr) := [([33], ⟨4, 0, 0⟩), ([88], ⟨8, 0, 0⟩), ([89], ⟨15, 0, 0⟩), ([90], ⟨15, 0, 1⟩), ([79], ⟨18, 0, 0⟩), ([72], ⟨19, 0, 0⟩), ([70], ⟨11, 13, 0⟩), ([71], ⟨12, 14, 0⟩)]
def infixT : List (List UInt8 × Opr) := [([85], ⟨9, 0, 0⟩), ([82], ⟨10, 0, 0⟩), ([83], ⟨16, 16, 0⟩), ([84], ⟨17, 17, 1⟩)]
def takeG (tab : List (List UInt8 × Opr)) : G (Option Opr) := .look fun o => match o with
 | some x => match tab.lookup x.2 with
  | some p => .next (.ret (some p))
  | none => .ret none
 | none => .ret none
def DG (o : Opr) : G (Option Int) := if o.indexed = 0 then .ret none else (BU [91]).bind fun b =>
 if b then numberG.bind fun n => (B7 [93]).bind fun _ => .ret (some n) else .ret none
def nodeF (op : Int) (l : List Fml) : Fml := match l with
 | [a] => a
 | l => ⟨op, [], 0, 0, l⟩
def isF (s : List UInt8) (n : Int) : Fml := ⟨3, s, n, 0, []⟩
def notF (f : Fml) : Fml := ⟨4, [], 0, 0, [f]⟩
def sees2 (s t : List UInt8) : G Bool := .look fun o => .ret (Aw s o || Aw t o)
def body : (nt : NT) → G nt.T
 | .formula => .call .orN fun a => (BU [45, 62]).bind fun b => if b then .call .formula fun c => .ret ⟨7, [], 0, 0, [a, c]⟩ else .ret a
 | .orN => .call .andN fun a => .call .orL fun l => .ret (nodeF 6 (a :: l))
 | .orL => (BU [124]).bind fun b => if b then .call .andN fun a => .call .orL fun l => .ret (a :: l) else .ret []
 | .andN => .call .untilN fun a => .call .andL fun l => .ret (nodeF 5 (a :: l))
 | .andL => (BU [38]).bind fun b => if b then .call .untilN fun a => .call .andL fun l => .ret (a :: l) else .ret []
 | .untilN => .call .unary fun a => (takeG infixT).bind fun
  | none => .ret a
  | some o => (DG o).bind fun n => .call .untilN fun c => .ret ⟨o.op, [], n.getD o.val, 0, [a, c]⟩
 | .unary => (takeG prefixT).bind fun
  | none => .call .primary .ret
  | some o => (DG o).bind fun n => .call .unary fun a => .ret (match n with
   | some n => ⟨o.indexed, [], o.val, n, [a]⟩
   | none => ⟨o.op, [], o.val, 0, [a]⟩)
 | .primary => (BU [116, 114, 117, 101]).bind fun b => if b then .ret ⟨1, [], 0, 0, []⟩ else
  (BU [102, 97, 108, 115, 101]).bind fun b => if b then .ret ⟨2, [], 0, 0, []⟩ else
  (BU [40]).bind fun b => if b then .call .formula fun f => (B7 [41]).bind fun _ => .ret f else
  nameG.bind fun s => (BU [61]).bind fun b => if b then numberG.bind fun n => .ret (isF s n) else
  (BU [33, 61]).bind fun b => if b then numberG.bind fun n => .ret (notF (isF s n)) else .ret (isF s 1)
 | .req => (BU [97, 115, 115, 117, 109, 101]).bind fun b => (if b then .ret 1 else (B7 [103, 117, 97, 114, 97, 110, 116, 101, 101]).bind fun _ => .ret 2).bind fun k =>
  nameG.bind fun s => (B7 [58]).bind fun _ => .call .formula fun f => .ret ⟨[], s, k, f⟩
 | .line => .call .req fun r => (B7 [59]).bind fun _ => .ret r
 | .lines => (sees2 [97, 115, 115, 117, 109, 101] [103, 117, 97, 114, 97, 110, 116, 101, 101]).bind fun b => if b then .call .line fun r => .call .lines fun l => .ret (r :: l) else .ret []
 | .part => (B7 [112, 97, 114, 116]).bind fun _ => nameG.bind fun s => (B7 [123]).bind fun _ => .call .lines fun l => (B7 [125]).bind fun _ => .ret (l.map fun r => ⟨s, r.name, r.kind, r.formula⟩)
 | .parts => (sees2 [112, 97, 114, 116] [112, 97, 114, 116]).bind fun b => if b then .call .part fun l => .call .parts fun m => .ret (l :: m) else .ret []
 | .signal => (BU [105, 110, 112, 117, 116]).bind fun i => (if i then .ret () else B7 [111, 117, 116, 112, 117, 116]).bind fun _ => nameG.bind fun s =>
  ((BU [58]).bind fun b => if b then numberG else .ret 2).bind fun n => (B7 [59]).bind fun _ => .ret ⟨s, i, n⟩
 | .sigs => (sees2 [105, 110, 112, 117, 116] [111, 117, 116, 112, 117, 116]).bind fun b => if b then .call .signal fun x => .call .sigs fun l => .ret (x :: l) else .ret []
 | .spec => .call .sigs fun s => .call .parts fun r => .ret ⟨s, r.flatten⟩
 | .edit => (BU [100, 114, 111, 112]).bind fun b => if b then nameG.bind fun s => .ret ⟨2, ⟨[], s, 0, zeroF⟩⟩ else
  (BU [97, 100, 100]).bind fun b => (if b then .ret 1 else (B7 [114, 101, 112, 108, 97, 99, 101]).bind fun _ => .ret 3).bind fun k =>
  nameG.bind fun p => .call .req fun r => .ret ⟨k, ⟨p, r.name, r.kind, r.formula⟩⟩
def whole (nt : NT) : G nt.T := .call nt fun v => .look fun o => match o with
 | none => .ret v
 | some _ => .fail
def evN : Nat → (nt : NT) → List Tok → Option (Ans nt.T)
 | 0, _, _ => none
 | n + 1, nt, l => evG (evN n) (body nt) l
def Run {α : Type} (p : G α) (l : List Tok) (r : Ans α) : Prop := ∃ n, evG (evN n) p l = some r
def RunN (nt : NT) (l : List Tok) (r : Ans nt.T) : Prop := Run (body nt) l r
theorem evG_mono {f g : (nt : NT) → List Tok → Option (Ans nt.T)} (h : ∀ nt l r, f nt l = some r → g nt l = some r) {α : Type} : ∀ (p : G α) (l : List Tok) (r : Ans α), evG f p l = some r → evG g p l = some r
 | .ret a, l, r, hr => hr
 | .fail, l, r, hr => hr
 | .look k, l, r, hr => by simp only [evG] at hr ⊢; exact evG_mono h (k _) l r hr
 | .next q, l, r, hr => by simp only [evG] at hr ⊢; exact evG_mono h q _ r hr
 | .call nt k, l, r, hr => by
  simp only [evG] at hr ⊢
  cases hf : f nt l with
  | none => rw [hf] at hr; cases hr
  | some x =>
   rw [hf] at hr
   rw [h nt l x hf]
   cases x with
   | error e => exact hr
   | ok y => exact evG_mono h (k y.1) y.2 r hr
theorem evN_step : ∀ (n : Nat) (nt : NT) (l : List Tok) (r : Ans nt.T), evN n nt l = some r → evN (n + 1) nt l = some r
 | 0, nt, l, r, h => by cases h
 | n + 1, nt, l, r, h => by
  unfold evN at h ⊢
  exact evG_mono (fun nt l r h => evN_step n nt l r h) _ _ _ h
theorem evN_mono {n m : Nat} (h : n ≤ m) (nt : NT) (l : List Tok) (r : Ans nt.T) (hr : evN n nt l = some r) : evN m nt l = some r := by
 induction h with
 | refl => exact hr
 | step _ ih => exact evN_step _ _ _ _ ih
theorem ev_mono {n m : Nat} (h : n ≤ m) {α : Type} {p : G α} {l : List Tok} {r : Ans α} (hr : evG (evN n) p l = some r) : evG (evN m) p l = some r :=
 evG_mono (fun nt l r h' => evN_mono h nt l r h') p l r hr
theorem Run.det {α : Type} {p : G α} {l : List Tok} {r r' : Ans α} (h : Run p l r) (h' : Run p l r') : r = r' := by
 obtain ⟨n, hn⟩ := h
 obtain ⟨m, hm⟩ := h'
 have h1 := ev_mono (Nat.le_max_left n m) hn
 have h2 := ev_mono (Nat.le_max_right n m) hm
 rw [h1] at h2; exact Option.some.inj h2
theorem Run.ret {α : Type} (a : α) (l : List Tok) : Run (.ret a) l (.ok (a, l)) := ⟨0, rfl⟩
theorem Run.fail {α : Type} (l : List Tok) : Run (.fail : G α) l (.error l) := ⟨0, rfl⟩
theorem Run.look {α : Type} {k : Option BT → G α} {l : List Tok} {r : Ans α} (h : Run (k (l.head?.map bare)) l r) : Run (.look k) l r := h
theorem Run.next {α : Type} {g : G α} {l : List Tok} {r : Ans α} (h : Run g l.tail r) : Run (.next g) l r := h
theorem Run.call {α : Type} {nt : NT} {k : nt.T → G α} {l l' : List Tok} {v : nt.T} {r : Ans α} (h : RunN nt l (.ok (v, l'))) (h' : Run (k v) l' r) : Run (.call nt k) l r := by
 obtain ⟨n, hn⟩ := h
 obtain ⟨m, hm⟩ := h'
 refine ⟨max n m + 1, ?_⟩
 have h1 : evN (max n m + 1) nt l = some (.ok (v, l')) := ev_mono (Nat.le_max_left n m) hn
 simp only [evG, h1]
 exact ev_mono (by omega) hm
theorem Run.callE {α : Type} {nt : NT} {k : nt.T → G α} {l e : List Tok} (h : RunN nt l (.error e)) : Run (.call nt k) l (.error e) := by
 obtain ⟨n, hn⟩ := h
 refine ⟨n + 1, ?_⟩
 have h1 : evN (n + 1) nt l = some (.error e) := hn
 simp only [evG, h1]
theorem Run.call_inv {α : Type} {nt : NT} {k : nt.T → G α} {l : List Tok} {r : Ans α} (h : Run (.call nt k) l r) : (∃ v l', RunN nt l (.ok (v, l')) ∧ Run (k v) l' r) ∨ ∃ e, RunN nt l (.error e) ∧ r = .error e := by
 obtain ⟨n, hn⟩ := h
 simp only [evG] at hn
 cases n with
 | zero => simp [evN] at hn
 | succ n =>
  cases hf : evN (n + 1) nt l with
  | none => rw [hf] at hn; cases hn
  | some x =>
   rw [hf] at hn
   have hf' : evG (evN n) (body nt) l = some x := hf
   cases x with
   | error e => cases hn; exact .inr ⟨e, ⟨n, hf'⟩, rfl⟩
   | ok y => exact .inl ⟨y.1, y.2, ⟨n, hf'⟩, ⟨n + 1, hn⟩⟩
theorem evG_bind (f : (nt : NT) → List Tok → Option (Ans nt.T)) {α β : Type} : ∀ (p : G α) (q : α → G β) (l : List Tok), evG f (p.bind q) l = match evG f p l with
  | none => none
  | some (.error e) => some (.error e)
  | some (.ok (a, l')) => evG f (q a) l'
 | .ret a, q, l => rfl
 | .fail, q, l => rfl
 | .look k, q, l => by simp only [G.bind, evG]; exact evG_bind f (k _) q l
 | .next g, q, l => by simp only [G.bind, evG]; exact evG_bind f g q _
 | .call nt k, q, l => by
  simp only [G.bind, evG]
  cases f nt l with
  | none => rfl
  | some x =>
   cases x with
   | error e => rfl
   | ok y => exact evG_bind f (k y.1) q y.2
theorem Run.bind {α β : Type} {p : G α} {q : α → G β} {l l' : List Tok} {a : α} {r : Ans β} (h : Run p l (.ok (a, l'))) (h' : Run (q a) l' r) : Run (p.bind q) l r := by
 obtain ⟨n, hn⟩ := h
 obtain ⟨m, hm⟩ := h'
 refine ⟨max n m, ?_⟩
 rw [evG_bind, ev_mono (Nat.le_max_left n m) hn]
 exact ev_mono (Nat.le_max_right n m) hm
theorem Run.bindE {α β : Type} {p : G α} {q : α → G β} {l e : List Tok} (h : Run p l (.error e)) : Run (p.bind q) l (.error e) := by
 obtain ⟨n, hn⟩ := h
 exact ⟨n, by rw [evG_bind, hn]⟩
theorem Run.bind_inv {α β : Type} {p : G α} {q : α → G β} {l : List Tok} {r : Ans β} (h : Run (p.bind q) l r) : (∃ a l', Run p l (.ok (a, l')) ∧ Run (q a) l' r) ∨ ∃ e, Run p l (.error e) ∧ r = .error e := by
 obtain ⟨n, hn⟩ := h
 rw [evG_bind] at hn
 cases hf : evG (evN n) p l with
 | none => rw [hf] at hn; cases hn
 | some x =>
  rw [hf] at hn
  cases x with
  | error e => cases hn; exact .inr ⟨e, ⟨n, hf⟩, rfl⟩
  | ok y => exact .inl ⟨y.1, y.2, ⟨n, hf⟩, ⟨n, hn⟩⟩
end Go.Proofs.YtfcgdbmoncnibaaGreatDoor
namespace Go.Proofs.YtfcgdbmoncnibaaGreatDoor
set_option linter.unusedVariables false
variable {mk : Prop} [MK mk]
def Ans.rem {α : Type} : Ans α → List Tok
 | .ok y => y.2
 | .error e => e
theorem Cj {f : (nt : NT) → List Tok → Option (Ans nt.T)} (hf : ∀ nt l r, f nt l = some r → Ans.rem r <:+ l) {α : Type} : ∀ (p : G α) (l : List Tok) (r : Ans α), evG f p l = some r → Ans.rem r <:+ l
 | .ret a, l, r, h => by cases h; exact List.suffix_rfl
 | .fail, l, r, h => by cases h; exact List.suffix_rfl
 | .look k, l, r, h => Cj hf (k _) l r h
 | .next g, l, r, h => (Cj hf g l.tail r h).trans (List.tail_suffix l)
 | .call nt k, l, r, h => by
  simp only [evG] at h
  cases hn : f nt l with
  | none => rw [hn] at h; cases h
  | some x =>
   rw [hn] at h
   have h1 := hf nt l x hn
   cases x with
   | error e => cases h; exact h1
   | ok y => exact (Cj hf (k y.1) y.2 r h).trans h1
theorem evN_suffix : ∀ (n : Nat) (nt : NT) (l : List Tok) (r : Ans nt.T), evN n nt l = some r → Ans.rem r <:+ l
 | 0, _, _, _, h => by cases h
 | n + 1, nt, l, r, h => Cj (evN_suffix n) (body nt) l r h
theorem Run.suffix {α : Type} {p : G α} {l : List Tok} {r : Ans α} (h : Run p l r) : Ans.rem r <:+ l := by
 obtain ⟨n, hn⟩ := h; exact Cj (evN_suffix n) p l r hn
def AR {α : Type} : Ans α → Ans α → Prop
 | .ok y, .ok z => y.1 = z.1 ∧ y.2.map bare = z.2.map bare
 | .error e, .error e' => e.map bare = e'.map bare
 | _, _ => False
theorem head_bare {l l' : List Tok} (h : l.map bare = l'.map bare) : l.head?.map bare = l'.head?.map bare := by
 cases l <;> cases l' <;> simp_all
theorem tail_bare {l l' : List Tok} (h : l.map bare = l'.map bare) : l.tail.map bare = l'.tail.map bare := by
 cases l <;> cases l' <;> simp_all
theorem evG_bare {f : (nt : NT) → List Tok → Option (Ans nt.T)} (hf : ∀ nt l l' r, l.map bare = l'.map bare → f nt l = some r → ∃ r', f nt l' = some r' ∧ AR r r') {α : Type} : ∀ (p : G α) (l l' : List Tok) (r : Ans α), l.map bare = l'.map bare → evG f p l = some r → ∃ r', evG f p l' = some r' ∧ AR r r'
 | .ret a, l, l', r, hl, h => by cases h; exact ⟨_, rfl, rfl, hl⟩
 | .fail, l, l', r, hl, h => by cases h; exact ⟨_, rfl, hl⟩
 | .look k, l, l', r, hl, h => by
  simp only [evG] at h ⊢
  rw [← head_bare hl]
  exact evG_bare hf (k _) l l' r hl h
 | .next g, l, l', r, hl, h => evG_bare hf g l.tail l'.tail r (tail_bare hl) h
 | .call nt k, l, l', r, hl, h => by
  simp only [evG] at h ⊢
  cases hn : f nt l with
  | none => rw [hn] at h; cases h
  | some x =>
   rw [hn] at h
   obtain ⟨x', h1, h2⟩ := hf nt l l' x hl hn
   rw [h1]
   cases x with
   | error e =>
    cases h
    cases x' with
    | error e' => exact ⟨_, rfl, h2⟩
    | ok y => exact h2.elim
   | ok y =>
    cases x' with
    | error e' => exact h2.elim
    | ok z =>
     obtain ⟨g1, g2⟩ := h2
     simp only at h ⊢
     rw [← g1]
     exact evG_bare hf (k y.1) y.2 z.2 r g2 h
theorem evN_bare : ∀ (n : Nat) (nt : NT) (l l' : List Tok) (r : Ans nt.T), l.map bare = l'.map bare → evN n nt l = some r → ∃ r', evN n nt l' = some r' ∧ AR r r'
 | 0, _, _, _, _, _, h => by cases h
 | n + 1, nt, l, l', r, hl, h => evG_bare (evN_bare n) (body nt) l l' r hl h
theorem Run.bare {α : Type} {p : G α} {l l' : List Tok} {r : Ans α} (hl : l.map bare = l'.map bare) (h : Run p l r) : ∃ r', Run p l' r' ∧ AR r r' := by
 obtain ⟨n, hn⟩ := h
 obtain ⟨r', h1, h2⟩ := evG_bare (evN_bare n) p l l' r hl hn
 exact ⟨r', ⟨n, h1⟩, h2⟩
theorem suf_app {r : List Tok} {x : Tok} {l1 : List Tok} (h : l1 ++ x :: r <:+ r) : False := by
 have := h.length_le; simp at this; omega
def Ahead {α : Type} (F : List Tok → Option (Ans α)) : Prop := ∀ (l1 l1' : List Tok) (x : Tok) (r r2 : List Tok),
 (∀ v, F (l1 ++ x :: r) = some (.ok (v, l1' ++ x :: r)) → F (l1 ++ x :: r2) = some (.ok (v, l1' ++ x :: r2))) ∧
 (F (l1 ++ x :: r) = some (.error (l1' ++ x :: r)) → F (l1 ++ x :: r2) = some (.error (l1' ++ x :: r2)))
theorem suf_mid {l : List Tok} {x : Tok} {l' r l1 : List Tok} (h : l <:+ l1 ++ x :: r) (h' : l' ++ x :: r <:+ l) : ∃ l0, l = l0 ++ x :: r := by
 obtain ⟨t, ht⟩ := h'
 exact ⟨t ++ l', by rw [← ht]; simp⟩
theorem evG_ahead {f : (nt : NT) → List Tok → Option (Ans nt.T)} (hf : ∀ nt, Ahead (f nt)) (hs : ∀ nt l r, f nt l = some r → Ans.rem r <:+ l) {α : Type} : ∀ p : G α, Ahead (evG f p)
 | .ret a => fun l1 l1' x r r2 => ⟨fun v h => by
   simp only [evG, Option.some.injEq, Except.ok.injEq, Prod.mk.injEq] at h ⊢
   obtain ⟨h1, h2⟩ := h
   exact ⟨h1, by rw [List.append_cancel_right h2]⟩, fun h => by simp [evG] at h⟩
 | .fail => fun l1 l1' x r r2 => ⟨fun v h => by simp [evG] at h, fun h => by
   simp only [evG, Option.some.injEq, Except.error.injEq] at h ⊢
   rw [List.append_cancel_right h]⟩
 | .look k => fun l1 l1' x r r2 => by
  have hh : (l1 ++ x :: r2).head?.map bare = (l1 ++ x :: r).head?.map bare := by cases l1 <;> rfl
  have := evG_ahead hf hs (k ((l1 ++ x :: r).head?.map bare)) l1 l1' x r r2
  simp only [evG]
  rw [hh]
  exact this
 | .next g => fun l1 l1' x r r2 => by
  simp only [evG]
  cases l1 with
  | nil =>
   refine ⟨fun v h => ?_, fun h => ?_⟩
   ·exact (suf_app (show l1' ++ x :: r <:+ r from Cj hs g _ _ h)).elim
   ·exact (suf_app (show l1' ++ x :: r <:+ r from Cj hs g _ _ h)).elim
  | cons y l1 => exact evG_ahead hf hs g l1 l1' x r r2
 | .call nt k => fun l1 l1' x r r2 => by
  simp only [evG]
  cases hn : f nt (l1 ++ x :: r) with
  | none => exact ⟨fun v h => (by cases h), fun h => (by cases h)⟩
  | some z =>
   have hz := hs nt _ z hn
   cases z with
   | error e =>
    refine ⟨fun v h => (by cases h), fun h => ?_⟩
    simp only [Option.some.injEq, Except.error.injEq] at h
    subst h
    rw [(hf nt l1 l1' x r r2).2 hn]
   | ok y =>
    obtain ⟨v, l'⟩ := y
    have go : (∀ u, evG f (k v) l' = some (.ok (u, l1' ++ x :: r)) → ∃ l0, l' = l0 ++ x :: r) ∧ (evG f (k v) l' = some (.error (l1' ++ x :: r)) → ∃ l0, l' = l0 ++ x :: r) :=
     ⟨fun u h => suf_mid (l1 := l1) hz (show l1' ++ x :: r <:+ l' from Cj hs (k v) _ _ h), fun h => suf_mid (l1 := l1) hz (show l1' ++ x :: r <:+ l' from Cj hs (k v) _ _ h)⟩
    refine ⟨fun u h => ?_, fun h => ?_⟩
    ·obtain ⟨l0, rfl⟩ := go.1 u h
     rw [(hf nt l1 l0 x r r2).1 v hn]
     exact (evG_ahead hf hs (k v) l0 l1' x r r2).1 u h
    ·obtain ⟨l0, rfl⟩ := go.2 h
     rw [(hf nt l1 l0 x r r2).1 v hn]
     exact (evG_ahead hf hs (k v) l0 l1' x r r2).2 h
theorem evN_ahead : ∀ (n : Nat) (nt : NT), Ahead (evN n nt)
 | 0, _ => fun _ _ _ _ _ => ⟨fun _ h => (by cases h), fun h => (by cases h)⟩
 | n + 1, nt => evG_ahead (evN_ahead n) (evN_suffix n) (body nt)
def DW (S : NT → Prop) (x : BT) {α : Type} : Bool → G α → Prop
 | _, .ret _ => True
 | _, .fail => True
 | b, .look k => (∀ y, DW S x true (k (some y))) ∧ (b = true ∨ k none = .fail ∨ (k none = k (some x) ∧ DW S x false (k none)))
 | b, .next g => b = true ∧ DW S x false g
 | _, .call nt k => S nt ∧ ∀ v, DW S x false (k v)
theorem evG_good {S : NT → Prop} {f : (nt : NT) → List Tok → Option (Ans nt.T)} {x : Tok} {r : List Tok} (hf : ∀ nt, S nt → ∀ l v, f nt l = some (.ok (v, [])) → f nt (l ++ x :: r) = some (.ok (v, x :: r)))
  (ha : ∀ nt, Ahead (f nt)) (ho : ∀ nt l v l' y, f nt l = some (.ok (v, y :: l')) → f nt (l ++ x :: r) = some (.ok (v, (y :: l') ++ x :: r))) {α : Type} : ∀ (p : G α) (b : Bool) (l : List Tok) (v : α), DW S (Go.Proofs.YtfcgdbmoncnibaaGreatDoor.bare x) b p → (b = true → l ≠ []) → evG f p l = some (.ok (v, [])) → evG f p (l ++ x :: r) = some (.ok (v, x :: r))
 | .ret a, b, l, v, _, _, h => by
  simp only [evG, Option.some.injEq, Except.ok.injEq, Prod.mk.injEq] at h ⊢
  obtain ⟨rfl, rfl⟩ := h
  exact ⟨rfl, rfl⟩
 | .fail, b, l, v, _, _, h => by simp [evG] at h
 | .look k, b, l, v, hg, hb, h => by
  simp only [evG] at h ⊢
  cases l with
  | nil =>
   simp only [List.head?_nil, Option.map_none] at h
   rcases hg.2 with hg2 | hg2 | ⟨hg2, hg3⟩
   ·exact absurd rfl (hb hg2)
   ·rw [hg2] at h; simp [evG] at h
   ·have := evG_good hf ha ho (k none) false [] v hg3 (fun h => by cases h) h
    simp only [List.nil_append, List.head?_cons, Option.map_some] at this ⊢
    rw [← hg2]; exact this
  | cons y l => exact evG_good hf ha ho (k (some (Go.Proofs.YtfcgdbmoncnibaaGreatDoor.bare y))) true (y :: l) v (hg.1 _) (fun _ => by simp) h
 | .next g, b, l, v, hg, hb, h => by
  simp only [evG] at h ⊢
  cases l with
  | nil => exact absurd rfl (hb hg.1)
  | cons y l => exact evG_good hf ha ho g false l v hg.2 (fun h => by cases h) h
 | .call nt k, b, l, v, hg, hb, h => by
  simp only [evG] at h ⊢
  cases hn : f nt l with
  | none => rw [hn] at h; cases h
  | some z =>
   rw [hn] at h
   cases z with
   | error e => cases h
   | ok y =>
    obtain ⟨u, l'⟩ := y
    simp only at h
    cases l' with
    | nil =>
     rw [hf nt hg.1 l u hn]
     exact evG_good hf ha ho (k u) false [] v (hg.2 u) (fun h => by cases h) h
    | cons y l' =>
     rw [ho nt l u l' y hn]
     exact evG_good hf ha ho (k u) false (y :: l') v (hg.2 u) (fun h => by cases h) h
theorem evN_left {n : Nat} {nt : NT} {l l' : List Tok} {v : nt.T} {y : Tok} (r : List Tok) (h : evN n nt l = some (.ok (v, y :: l'))) : evN n nt (l ++ r) = some (.ok (v, (y :: l') ++ r)) := by
 obtain ⟨t, ht⟩ := (show y :: l' <:+ l from evN_suffix n nt l _ h)
 subst ht
 have := (evN_ahead n nt t [] y l' (l' ++ r)).1 v h
 simpa using this
theorem evN_good {S : NT → Prop} {x : Tok} {r : List Tok} (hS : ∀ nt, S nt → DW S (Go.Proofs.YtfcgdbmoncnibaaGreatDoor.bare x) false (body nt)) : ∀ (n : Nat) (nt : NT), S nt → ∀ l v, evN n nt l = some (.ok (v, [])) → evN n nt (l ++ x :: r) = some (.ok (v, x :: r))
 | 0, _, _, _, _, h => by cases h
 | n + 1, nt, hs, l, v, h => evG_good (evN_good hS n) (evN_ahead n) (fun nt l v l' y h => evN_left _ h) (body nt) false l v (hS nt hs) (fun h => by cases h) h
theorem RunN.stop {S : NT → Prop} {x : Tok} (hS : ∀ nt, S nt → DW S (Go.Proofs.YtfcgdbmoncnibaaGreatDoor.bare x) false (body nt)) {nt : NT} (hs : S nt) {l : List Tok} {v : nt.T} (r : List Tok) (h : RunN nt l (.ok (v, []))) : RunN nt (l ++ x :: r) (.ok (v, x :: r)) := by
 obtain ⟨n, hn⟩ := h
 exact ⟨n, evN_good hS (n + 1) nt hs l v hn⟩
end Go.Proofs.YtfcgdbmoncnibaaGreatDoor
namespace Go.Proofs.YtfcgdbmoncnibaaGreatDoor
open Go.RowKit
set_option linter.unusedVariables false
variable {mk : Prop} [MK mk]
inductive FAt (ok : Nat → Prop) (w : World) : Value → Fml → Prop where
 | mk (op : Int) (name : List UInt8) (val bound : Int) (args : List Fml) (av : Value) (L : List (List Value)) (hS : Sl ok w av args.length L.flatten) (hL : L.length = args.length) (h5 : ∀ c ∈ L, c.length = 5)
   (hA : ∀ (i : Nat) (c : List Value) (g : Fml), L[i]? = some c → args[i]? = some g → FAt ok w (.agg c.toArray) g) : FAt ok w (.agg #[.int .i64 op, AL name, .int .i64 val, .int .i64 bound, av]) ⟨op, name, val, bound, args⟩
theorem FAt.keep {ok : Nat → Prop} {X : List Nat} {w w' : World} {v : Value} {f : Fml} (h : FAt ok w v f) (k : Keep X w w') (hX : ∀ b, ok b → b ∉ X) : FAt ok w' v f := by
 induction h with
 | mk op name val bound args av L hS hL h5 hA ih => exact .mk op name val bound args av L (hS.keep k hX) hL h5 ih
theorem FAt.ext {ok : Nat → Prop} {w w' : World} {v : Value} {f : Fml} (h : FAt ok w v f) (k : Ext w w') : FAt ok w' v f := h.keep k fun _ _ => by simp
theorem FAt.mono {ok ok' : Nat → Prop} {w : World} {v : Value} {f : Fml} (h : FAt ok w v f) (hk : ∀ b, ok b → ok' b) : FAt ok' w v f := by
 induction h with
 | mk op name val bound args av L hS hL h5 hA ih => exact .mk op name val bound args av L (hS.mono hk) hL h5 ih
theorem Sl.lt {ok : Nat → Prop} {w : World} {v : Value} {n : Nat} {cs : List Value} (h : Sl ok w v n cs) (hc : n ≠ 0 → cs ≠ []) : Sl (fun b => ok b ∧ b < w.heap.size) w v n cs := by
 obtain ⟨a, cap, hv, h1, h2, h3, h4⟩ := h
 refine ⟨a, cap, hv, h1, h2, h3, ?_⟩
 by_cases h0 : n = 0
 ·exact .inl h0
 ·obtain ⟨b, off, ha, hb, hcc⟩ := h4.resolve_left h0
  refine .inr ⟨b, off, ha, ⟨hb, ?_⟩, hcc⟩
  match cs, hc h0 with
  | u :: cs, _ => exact World.block_lt_of_cell? w _ (hcc 0 u rfl)
theorem flatten_ne {L : List (List Value)} {n : Nat} (hL : L.length = n) (h5 : ∀ c ∈ L, c.length = 5) : n ≠ 0 → L.flatten ≠ [] := by
 intro h0 e
 match L, hL with
 | [], hL => exact h0 hL.symm
 | c :: L, _ =>
  have := h5 c (by simp)
  simp at e
  simp [e.1] at this
theorem FAt.lt {ok : Nat → Prop} {w : World} {v : Value} {f : Fml} (h : FAt ok w v f) : FAt (fun b => ok b ∧ b < w.heap.size) w v f := by
 induction h with
 | mk op name val bound args av L hS hL h5 hA ih => exact .mk op name val bound args av L (hS.lt (flatten_ne hL h5)) hL h5 ih
theorem FAt.form {ok : Nat → Prop} {w : World} {v : Value} {f : Fml} (h : FAt ok w v f) : ∃ av, v = .agg #[.int .i64 f.op, AL f.name, .int .i64 f.val, .int .i64 f.bound, av] ∧
  ∃ L : List (List Value), Sl ok w av f.args.length L.flatten ∧ L.length = f.args.length ∧ (∀ c ∈ L, c.length = 5) ∧ ∀ (i : Nat) (c : List Value) (g : Fml), L[i]? = some c → f.args[i]? = some g → FAt ok w (.agg c.toArray) g := by
 cases h with
 | mk op name val bound args av L hS hL h5 hA => exact ⟨av, rfl, L, hS, hL, h5, hA⟩
theorem FAt.leaf (ok : Nat → Prop) (w : World) (op : Int) (name : List UInt8) (val bound : Int) : FAt ok w (.agg #[.int .i64 op, AL name, .int .i64 val, .int .i64 bound, .slice none 0 0]) ⟨op, name, val, bound, []⟩ :=
 .mk op name val bound [] _ [] ⟨none, 0, rfl, by simp, by omega, fun _ => rfl, .inl rfl⟩ rfl (fun c hc => by cases hc) (fun i c g h => by simp at h)
def FsAt (ok : Nat → Prop) (w : World) (L : List (List Value)) (l : List Fml) : Prop :=
 L.length = l.length ∧ (∀ c ∈ L, c.length = 5) ∧ ∀ (i : Nat) (c : List Value) (g : Fml), L[i]? = some c → l[i]? = some g → FAt ok w (.agg c.toArray) g
theorem FsAt.nil (ok : Nat → Prop) (w : World) : FsAt ok w [] [] := ⟨rfl, (fun c hc => by cases hc), fun i c g h => by simp at h⟩
theorem FsAt.cons {ok : Nat → Prop} {w : World} {c : List Value} {f : Fml} {L : List (List Value)} {l : List Fml} (h : FAt ok w (.agg c.toArray) f) (hc : c.length = 5) (hl : FsAt ok w L l) : FsAt ok w (c :: L) (f :: l) := by
 refine ⟨by simp [hl.1], fun d hd => ?_, fun i d g hi hg => ?_⟩
 ·rcases List.mem_cons.1 hd with rfl | hd
  ·exact hc
  ·exact hl.2.1 d hd
 ·cases i with
  | zero => simp at hi hg; subst hi hg; exact h
  | succ i => exact hl.2.2 i d g (by simpa using hi) (by simpa using hg)
theorem FsAt.snoc {ok : Nat → Prop} {w : World} {c : List Value} {f : Fml} : ∀ {L : List (List Value)} {l : List Fml}, FsAt ok w L l → FAt ok w (.agg c.toArray) f → c.length = 5 → FsAt ok w (L ++ [c]) (l ++ [f])
 | [], [], _, h, hc => FsAt.cons h hc (FsAt.nil ok w)
 | [], _ :: _, hl, _, _ => by have := hl.1; simp at this
 | _ :: _, [], hl, _, _ => by have := hl.1; simp at this
 | d :: L, g :: l, hl, h, hc => FsAt.cons (hl.2.2 0 d g rfl rfl) (hl.2.1 d (by simp)) (FsAt.snoc ⟨by simpa using hl.1, fun c hc => hl.2.1 c (by simp [hc]), fun i c g hi hg => hl.2.2 (i + 1) c g (by simpa using hi) (by simpa using hg)⟩ h hc)
theorem FsAt.keep {ok : Nat → Prop} {X : List Nat} {w w' : World} {L : List (List Value)} {l : List Fml} (h : FsAt ok w L l) (k : Keep X w w') (hX : ∀ b, ok b → b ∉ X) : FsAt ok w' L l :=
 ⟨h.1, h.2.1, fun i c g hi hg => (h.2.2 i c g hi hg).keep k hX⟩
theorem FsAt.mono {ok ok' : Nat → Prop} {w : World} {L : List (List Value)} {l : List Fml} (h : FsAt ok w L l) (hk : ∀ b, ok b → ok' b) : FsAt ok' w L l :=
 ⟨h.1, h.2.1, fun i c g hi hg => (h.2.2 i c g hi hg).mono hk⟩
theorem FsAt.lt {ok : Nat → Prop} {w : World} {L : List (List Value)} {l : List Fml} (h : FsAt ok w L l) : FsAt (fun b => ok b ∧ b < w.heap.size) w L l :=
 ⟨h.1, h.2.1, fun i c g hi hg => (h.2.2 i c g hi hg).lt⟩
theorem FAt.node {ok : Nat → Prop} {w : World} {av : Value} {L : List (List Value)} {l : List Fml} (op : Int) (name : List UInt8) (val bound : Int) (hS : Sl ok w av l.length L.flatten) (h : FsAt ok w L l) :
  FAt ok w (.agg #[.int .i64 op, AL name, .int .i64 val, .int .i64 bound, av]) ⟨op, name, val, bound, l⟩ := .mk op name val bound l av L hS h.1 h.2.1 h.2.2
theorem FAt.cells {ok : Nat → Prop} {w : World} {v : Value} {f : Fml} (h : FAt ok w v f) : ∃ c : List Value, v = .agg c.toArray ∧ c.length = 5 ∧ oneC c := by
 obtain ⟨av, rfl, L, hS, _⟩ := h.form
 obtain ⟨a, cap, rfl, _⟩ := hS
 refine ⟨_, rfl, rfl, ?_⟩
 intro u hu
 simp at hu
 rcases hu with rfl | rfl | rfl | rfl | rfl <;> rfl
structure Env where
 lo : Nat
 s : Nat
 n : Nat
 mp : Nat
 mi : Nat
abbrev inE (E : Env) (b : Nat) : Prop := E.lo ≤ b ∧ b < E.s
def oprV (o : Opr) : Value := .agg #[.int .i64 o.op, .int .i64 o.indexed, .int .i64 o.val]
def tabV (t : List (List UInt8 × Opr)) : List (List UInt8 × Value) := t.map fun p => (p.1, oprV p.2)
def TokWf (x : Tok) : Prop := x.kind = 2 → 1 ≤ x.text.length ∧ x.text.length ≤ 4 ∧ ∀ c ∈ x.text, Ap c = true
structure PSt (w : World) (E : Env) (ts : List Tok) : Prop where
 blk : ∃ a c, Blk w E.s 150 [.slice a ts.length c, .int .i64 (E.n : Int), .map (some E.mp), .map (some E.mi)] ∧ Sl (inE E) w (.slice a ts.length c) ts.length (C3 ts)
 pre : SMap w E.mp (tabV prefixT)
 inf : SMap w E.mi (tabV infixT)
 lt : E.mp < E.s ∧ E.mi < E.s
 wf : ∀ x ∈ ts, TokWf x
 cnt : ts.length ≤ 2000
theorem PSt.keep {X : List Nat} {w w' : World} {E : Env} {ts : List Tok} (h : PSt w E ts) (k : Keep X w w') (hX : ∀ x ∈ X, E.s < x) : PSt w' E ts := by
 obtain ⟨⟨a, c, h1, h2⟩, h3, h4, h5, h6, h7⟩ := h
 have hn : ∀ b, b ≤ E.s → b ∉ X := fun b hb hx => by have := hX b hx; omega
 exact ⟨⟨a, c, h1.keep k (hn _ (Nat.le_refl _)), h2.keep k fun b hb => hn b (by have := hb.2; omega)⟩, h3.keep k (hn _ (by omega)), h4.keep k (hn _ (by omega)), h5, h6, h7⟩
theorem PSt.ext {w w' : World} {E : Env} {ts : List Tok} (h : PSt w E ts) (k : Ext w w') : PSt w' E ts := h.keep k fun x hx => by cases hx
theorem PSt.slt {w : World} {E : Env} {ts : List Tok} (h : PSt w E ts) : E.s < w.heap.size := by obtain ⟨_, _, h1, _⟩ := h.blk; exact h1.lt
abbrev failP (e : Int) (p : Nat) : List PanicEntry := [{ v := .iface 145 (.agg #[.int .i64 e, .int .i64 (p : Int)]), recovered := false }]
def errV (n : Nat) : List Tok → List PanicEntry
 | [] => failP 51 n
 | x :: _ => failP 50 x.loc
def PDo {α : Type} (E : Env) (F : FuncId) (args : List Value) (w : World) (p : G α) (ts : List Tok) (Rep : World → Value → α → Prop) : Prop :=
 FnP Tryz.prog F args w (fun v w' => Keep [E.s] w w' ∧ ∃ a ts', Run p ts (.ok (a, ts')) ∧ PSt w' E ts' ∧ Rep w' v a) (fun ch w' => Keep [E.s] w w' ∧ ∃ l, Run p ts (.error l) ∧ ch = errV E.n l)
theorem PSt.tok {w : World} {E : Env} {x : Tok} {l : List Tok} {a : Option Addr} {c : Nat} (h : Sl (inE E) w (.slice a (x :: l).length c) (x :: l).length (C3 (x :: l))) :
  ∃ b o, a = some ⟨b, o, none⟩ ∧ 1 ≤ c ∧ (w.cell? ⟨b, o + 0 * 3 + 0, none⟩ = some (.int .i64 x.kind) ∧ w.cell? ⟨b, o + 0 * 3 + 1, none⟩ = some (AL x.text) ∧ w.cell? ⟨b, o + 0 * 3 + 2, none⟩ = some (.int .i64 (x.loc : Int))) ∧
   Sl (inE E) w (.slice (adv c 1 3 a) l.length (c - 1)) l.length (C3 l) := by
 obtain ⟨a', cap, hv, h1, h2, h3, h4⟩ := h
 cases hv
 obtain ⟨b, o, rfl, hb, hc⟩ := h4.resolve_left (by simp)
 have hl : (x :: l).length = l.length + 1 := rfl
 have e : C3 (x :: l) = tokC x ++ C3 l := by simp [C3]
 refine ⟨b, o, rfl, by omega, ⟨hc 0 _ rfl, hc 1 _ rfl, hc 2 _ rfl⟩, _, _, rfl, by omega, by omega, ?_, ?_⟩
 ·intro ha
  unfold adv at ha
  split at ha
  ·cases ha
  ·simp at ha
 ·by_cases h0 : l.length = 0
  ·exact .inl h0
  ·refine .inr ⟨b, o + 3, ?_, hb, ?_⟩
   ·unfold adv
    rw [if_neg (by omega)]
    rfl
   ·intro i u hu
    have := hc (3 + i) u (by rw [e, List.getElem?_append_right (by simp [tokC])]; simpa [tokC] using hu)
    rw [Nat.add_assoc]; exact this
theorem PSt.taken {w w' : World} {E : Env} {x : Tok} {l : List Tok} {a : Option Addr} {c : Nat} (h : PSt w E (x :: l)) (hs : Sl (inE E) w (.slice (adv c 1 3 a) l.length (c - 1)) l.length (C3 l))
  (p : Put w w' E.s 150 [.slice (adv c 1 3 a) l.length (c - 1), .int .i64 (E.n : Int), .map (some E.mp), .map (some E.mi)]) : PSt w' E l := by
 obtain ⟨_, h3, h4, h5, h6, h7⟩ := h
 have h51 := h5.1
 have h52 := h5.2
 refine ⟨⟨_, _, p.blk, hs.keep p.keep fun b hb => by have := hb.2; simp; omega⟩, h3.keep p.keep (by simp; omega), h4.keep p.keep (by simp; omega), h5, fun y hy => h6 y (by simp [hy]), by simp at h7; omega⟩
theorem wrong_ok (E : Env) (w : World) (ts : List Tok) (h : PSt w E ts) {R : Value → World → Prop} : FnP Tryz.prog 91 [pt E.s] w R (fun ch w' => w' = w ∧ ch = errV E.n ts) := by
 obtain ⟨a, c, hb, hs⟩ := h.blk
 refine Ar Tryz.func91 rfl Tryz.ntmps91 (Nat.le_of_ble_eq_true rfl) (by kernel_rfl) ?_
 repeat refine nx rfl ?_
 cases ts with
 | nil =>
  have hl : ([] : List Tok).length = 0 := rfl
  (refine AA (AQ rfl (AH rfl (AD rfl (AG rfl (Blk.cell (by assumption) (by rfl)) ?_)))) <;> refine As rfl (Av rfl rfl (by omega) ?_))
  repeat refine nx rfl ?_
  (refine AA (AQ rfl (AH rfl (AD rfl (AG rfl (Blk.cell (by assumption) (by rfl)) ?_)))) <;> refine Ad (by rfl) (by rfl) ?_ <;> refine C8 (DC rfl ?_))
  repeat refine nx rfl ?_
  exact AY ⟨rfl, rfl⟩
 | cons x l =>
  have hl : (x :: l).length = l.length + 1 := rfl
  obtain ⟨b, o, rfl, _, ⟨hc0, hc1, hc2⟩, _⟩ := PSt.tok hs
  (refine AA (AQ rfl (AH rfl (AD rfl (AG rfl (Blk.cell (by assumption) (by rfl)) ?_)))) <;> refine As rfl (AN rfl rfl (by omega) ?_))
  repeat first | refine nx rfl ?_ | refine nf rfl ?_
  (refine AA (AQ rfl (AH rfl (AD rfl (AG rfl (Blk.cell (by assumption) (by rfl)) ?_)))) <;> refine BO rfl rfl (by omega) (by omega) (AD rfl (AG rfl (by assumption) ?_)) <;> refine Ad (by rfl) (by rfl) ?_ <;> refine C8 (DC rfl ?_))
  repeat refine nx rfl ?_
  exact AY ⟨rfl, rfl⟩
theorem sees_ok (E : Env) (w : World) (ts : List Tok) (t : List UInt8) (h : PSt w E ts) : Fn Tryz.prog 93 [pt E.s, AL t] w (fun v w' => v = .bool (Aw t (ts.head?.map bare)) ∧ w' = w) := by
 obtain ⟨a, c, hb, hs⟩ := h.blk
 refine Ab Tryz.func93 rfl Tryz.ntmps93 (Nat.le_of_ble_eq_true rfl) (by kernel_rfl) ?_
 repeat refine nx rfl ?_
 refine AA (AC (AB rfl ?_))
 repeat refine nx rfl ?_
 cases ts with
 | nil =>
  have hl : ([] : List Tok).length = 0 := rfl
  (refine AA (AQ rfl (AH rfl (AD rfl (AG rfl (Blk.cell (by assumption) (by rfl)) ?_)))) <;> refine As rfl (DF rfl rfl (by omega) (AB rfl (AI rfl (AI rfl (AI rfl (AI rfl (AI rfl (AI rfl (AI rfl (AI rfl (AP rfl (AB rfl (AB rfl (AI rfl (AI rfl (AI rfl (AI rfl (AI rfl (AI rfl (AI rfl (AI rfl (AI rfl (AP rfl (AB rfl (AC (AB rfl ?_)))))))))))))))))))))))))))
  repeat refine nx rfl ?_
  exact AO rfl ⟨rfl, rfl⟩
 | cons x l =>
  have hl : (x :: l).length = l.length + 1 := rfl
  obtain ⟨b, o, rfl, _, ⟨hc0, hc1, hc2⟩, _⟩ := PSt.tok hs
  by_cases hk : x.kind = 2
  ·(refine AA (AQ rfl (AH rfl (AD rfl (AG rfl (Blk.cell (by assumption) (by rfl)) ?_)))) <;> refine As rfl (DI rfl rfl (by omega) (AB rfl (AE rfl (AQ rfl (AE rfl (AH rfl (AE rfl (AD rfl (AE rfl (AG rfl (Blk.cell (by assumption) (by rfl)) ?_)))))))))) <;> refine AE rfl (BO rfl rfl (by omega) (by omega) (AE rfl (AD rfl (AE rfl (AG rfl (by assumption) ?_))))) <;> refine AE rfl (W_neqF rfl rfl (by omega) (AK rfl (AB rfl (AB rfl (AI rfl (AI rfl (AI rfl (AI rfl (AI rfl (AI rfl (AI rfl (AI rfl (AI rfl (AP rfl (AB rfl (AC (AB rfl ?_))))))))))))))))))
   repeat refine nx rfl ?_
   exact AO rfl ⟨by simp [upd, Nat.beq, Aw, bare, hk], rfl⟩
  ·(refine AA (AQ rfl (AH rfl (AD rfl (AG rfl (Blk.cell (by assumption) (by rfl)) ?_)))) <;> refine As rfl (DI rfl rfl (by omega) (AB rfl (AE rfl (AQ rfl (AE rfl (AH rfl (AE rfl (AD rfl (AE rfl (AG rfl (Blk.cell (by assumption) (by rfl)) ?_)))))))))) <;> refine AE rfl (BO rfl rfl (by omega) (by omega) (AE rfl (AD rfl (AE rfl (AG rfl (by assumption) ?_))))) <;> refine AE rfl (W_neqT rfl rfl (by omega) (AK rfl (AB rfl (AB rfl (AE rfl (AQ rfl (AE rfl (AH rfl (AE rfl (AD rfl (AE rfl (AG rfl (Blk.cell (by assumption) (by rfl)) ?_)))))))))))) <;> refine AE rfl (BO rfl rfl (by omega) (by omega) (AE rfl (AD rfl (AE rfl (AG rfl (by assumption) ?_))))) <;> refine AE rfl (AU rfl ?_) <;> (refine AE rfl ?_; refine CM rfl rfl (fun hc => ?_) (fun hc => ?_)) <;> refine AK rfl (AB rfl (AC (AB rfl ?_))))
   ·repeat refine nx rfl ?_
    exact AO rfl ⟨by simp_all [upd, Nat.beq, Aw, bare], rfl⟩
   ·repeat refine nx rfl ?_
    exact AO rfl ⟨by simp_all [upd, Nat.beq, Aw, bare], rfl⟩
end Go.Proofs.YtfcgdbmoncnibaaGreatDoor
