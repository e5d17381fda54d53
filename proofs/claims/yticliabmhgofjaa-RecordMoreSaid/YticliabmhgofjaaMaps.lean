/- Rules for maps from integers to integers: made, looked up, stored into, ranged over. Conditions: none. -/
import Derived.Test.YticliabmhgofjaaOps4
import Derived.Maps.RangeRun
namespace Go.Proofs.Yticliabmhgofjaa
open Go.RowKit
open Go.ChangeMaps (setBlock)
attribute [local semireducible] WC WOps thenQ blockQ scopeQ finQ finD stepP

variable {P : Program} {all : Array Oper} {Z : Fr → DS → List PanicEntry → World → Prop} {K : Fr → DS → World → Prop} {rest : List Oper} {f : Fr} {ds : DS} {w : World}
  {d : Nat} {ty : TypeId} {pos : String} {af : Array Edge}

class MapT (P : Program) (T : TypeId) : Prop where
  out : ∃ kt et i, P.underlying T = some (.map kt et) ∧ P.underlying kt = some (.int .i64) ∧ P.info? et = some i ∧ i.zero = some (.int .i64 0)

theorem mapT_of {T kt et : TypeId} (h1 : P.underlying T = some (.map kt et)) (h2 : P.underlying kt = some (.int .i64)) (h3 : (P.info? et).map (·.zero) = some (some (.int .i64 0))) : MapT P T := by
  obtain ⟨i, hi, hz⟩ := Option.map_eq_some_iff.1 h3
  exact ⟨kt, et, i, h1, h2, hi, hz⟩

def encP (p : Int × Int) : Value × Value := (.int .i64 p.1, .int .i64 p.2)
theorem encP_inj {p q : Int × Int} (h : encP p = encP q) : p = q := by
  obtain ⟨a, b⟩ := p; obtain ⟨c, e⟩ := q
  simp only [encP, Prod.mk.injEq, Value.int.injEq, true_and] at h
  rw [h.1, h.2]
def rdE (e : MapEntry) : Value × Value := (e.key, e.val)

/-- block r holds a map that reads as the pairs L -/
def IMap (w : World) (r : Nat) (L : List (Int × Int)) : Prop :=
  ∃ es clock, w.heap[r]? = some (.map es clock) ∧ MapKept.Stamped es clock ∧ es.toList.map rdE = L.map encP
theorem IMap.lt {r : Nat} {L : List (Int × Int)} (h : IMap w r L) : r < w.heap.size := by
  obtain ⟨es, c, h1, _⟩ := h; exact (Array.getElem?_eq_some_iff.1 h1).1
theorem IMap.keep {X : List Nat} {w' : World} {r : Nat} {L : List (Int × Int)} (h : IMap w r L) (k : Keep X w w') (hr : r ∉ X) : IMap w' r L := by
  obtain ⟨es, c, h1, h2, h3⟩ := id h
  exact ⟨es, c, (k.block r h.lt hr).trans h1, h2, h3⟩

theorem nodup_keys {r : Nat} {L : List (Int × Int)} (h : IMap w r L) : (L.map (·.1)).Nodup := by
  obtain ⟨es, c, _, ⟨_, _, h2⟩, h3⟩ := h
  have e : es.toList.map (·.key) = L.map (fun p => Value.int .i64 p.1) := by
    have := congrArg (List.map Prod.fst) h3
    simpa [rdE, encP, List.map_map, Function.comp_def] using this
  rw [e] at h2
  have h4 : ((L.map (·.1)).map (fun x => Value.int .i64 x)).Nodup := by rw [List.map_map]; exact h2
  exact List.Pairwise.of_map _ (fun a b hab e => hab (by rw [e])) h4

theorem keys_int {es : List MapEntry} {L : List (Int × Int)} (h : es.map rdE = L.map encP) : ∀ x ∈ es, MapKept.IsKey (.int .i64) x.key := by
  intro x hx
  have : rdE x ∈ L.map encP := by rw [← h]; exact List.mem_map.2 ⟨x, hx, rfl⟩
  obtain ⟨p, _, e⟩ := List.mem_map.1 this
  have : x.key = .int .i64 p.1 := (congrArg Prod.fst e).symm
  rw [this]; rfl

theorem lookup_some_of {L : List (Int × Int)} (hn : (L.map (·.1)).Nodup) {p : Int × Int} (hp : p ∈ L) : L.lookup p.1 = some p.2 := by
  induction L with
  | nil => cases hp
  | cons q L ih =>
    simp only [List.map_cons, List.nodup_cons] at hn
    obtain ⟨a, b⟩ := q
    rcases List.mem_cons.1 hp with rfl | hp
    · simp [List.lookup]
    · have : p.1 ≠ a := fun e => hn.1 (List.mem_map.2 ⟨p, hp, e⟩)
      rw [List.lookup_cons, beq_false_of_ne this]
      exact ih hn.2 hp
theorem lookup_none_of {L : List (Int × Int)} {x : Int} (h : ∀ p ∈ L, p.1 ≠ x) : L.lookup x = none := by
  induction L with
  | nil => rfl
  | cons q L ih =>
    obtain ⟨a, b⟩ := q
    rw [List.lookup_cons, beq_false_of_ne (fun e => h (a, b) (by simp) e.symm)]
    exact ih fun p hp => h p (List.mem_cons_of_mem _ hp)
theorem mem_of_lookup {L : List (Int × Int)} {x y : Int} (h : L.lookup x = some y) : (x, y) ∈ L := by
  induction L with
  | nil => simp at h
  | cons q L ih =>
    obtain ⟨a, b⟩ := q
    rw [List.lookup_cons] at h
    split at h
    · rename_i e
      cases h
      rw [eq_of_beq e]; simp
    · exact List.mem_cons_of_mem _ (ih h)

/-- what findKey answers -/
theorem find_int {kt : TypeId} {L : List (Int × Int)} (hk : P.underlying kt = some (.int .i64)) {es : Array MapEntry} (hm : es.toList.map rdE = L.map encP) (hn : (L.map (·.1)).Nodup) (x : Int) (w : World) :
    (L.lookup x = none ∧ (Instr.findKey kt (.int .i64 x) es.toList).run P w = .ok none w ∧ ∀ e ∈ es.toList, e.key ≠ .int .i64 x) ∨
    ∃ i y e, L.lookup x = some y ∧ (Instr.findKey kt (.int .i64 x) es.toList).run P w = .ok (some (i, .int .i64 y)) w ∧ es[i]? = some e ∧ L[i]? = some (x, y) ∧ e.key = .int .i64 x := by
  have hget : ∀ (i : Nat) (e : MapEntry), es.toList[i]? = some e → ∃ p, L[i]? = some p ∧ e.key = .int .i64 p.1 ∧ e.val = .int .i64 p.2 := by
    intro i e he
    have := congrArg (fun l => l[i]?) hm
    simp only [List.getElem?_map, he, Option.map_some] at this
    obtain ⟨p, hp, e2⟩ := Option.map_eq_some_iff.1 this.symm
    exact ⟨p, hp, (congrArg Prod.fst e2).symm, (congrArg Prod.snd e2).symm⟩
  rcases MapKept.findNow_spec (d := .int .i64) (k := .int .i64 x) rfl es.toList 0 (keys_int hm) with ⟨h1, h2⟩ | ⟨j, e, h1, h2, h3⟩
  · refine .inl ⟨lookup_none_of fun p hp hpx => ?_, MapKept.run_findKey hk h1, h2⟩
    obtain ⟨i, hi⟩ := List.getElem?_of_mem hp
    have := congrArg (fun l => l[i]?) hm
    simp only [List.getElem?_map, hi, Option.map_some] at this
    obtain ⟨e, he, e2⟩ := Option.map_eq_some_iff.1 this
    refine h2 e (List.mem_of_getElem? he) ?_
    rw [show e.key = .int .i64 p.1 from congrArg Prod.fst e2, hpx]
  · obtain ⟨p, hp, e1, e2⟩ := hget j e h2
    rw [h3] at e1
    have hx : x = p.1 := by simpa using e1
    refine .inr ⟨j, p.2, e, ?_, ?_, by simpa using h2, by rw [hp, hx], h3⟩
    · rw [hx]; exact lookup_some_of hn (List.mem_of_getElem? hp)
    · have := MapKept.run_findKey (P := P) (w := w) hk h1
      rw [this, e2, Nat.zero_add]

def insL (L : List (Int × Int)) (x y : Int) : List (Int × Int) := if (L.lookup x).isSome then L.map (fun p => if p.1 = x then (x, y) else p) else L ++ [(x, y)]

theorem W_makeMap {T : TypeId} (h : ∀ w', Ext w w' → w'.heap.size = w.heap.size + 1 → IMap w' w.heap.size [] → WOps P all Z K rest (upd f d (.map (some w.heap.size))) ds w') :
    WOps P all Z K (⟨some d, .makeMap T none, ty, pos, af, none⟩ :: rest) f ds w := by
  refine W_val (v := .map (some w.heap.size)) (w' := w.alloc (.map #[] 0)) rfl ?_ (h _ ⟨rfl, rfl, rfl, by simp, fun k hk _ => heap_alloc_old w _ hk⟩ (by simp) ⟨#[], 0, heap_alloc_new w _, MapKept.stamped_empty 0, rfl⟩)
  have hr : (Instr.makeMap T none).run P w = .ok (.map (some w.heap.size)) (w.alloc (.map #[] 0)) := rfl
  simp [execOp, hr]

theorem W_lookup {T : TypeId} {m k : Operand} {r : Nat} {x : Int} {L : List (Int × Int)} [hT : MapT P T] (hm : ev f m = .map (some r)) (hk : ev f k = .int .i64 x) (hL : IMap w r L)
    (h : WOps P all Z K rest (upd f d (.int .i64 ((L.lookup x).getD 0))) ds w) : WOps P all Z K (⟨some d, .lookup T m k false, ty, pos, af, none⟩ :: rest) f ds w := by
  obtain ⟨kt, et, i, h1, h2, h3, h4⟩ := hT.out
  have hn := nodup_keys hL
  obtain ⟨es, clock, hb, hs, hmm⟩ := hL
  refine W_val rfl ?_ h
  have hck := MapKept.run_checkKey (P := P) (w := w) (k := .int .i64 x) h2 rfl es.isEmpty 9999
  have hz : (zeroValue et).run P w = .ok (.int .i64 0) w := by simp [zeroValue, typeInfo, h3, h4]
  rcases find_int h2 hmm hn x w with ⟨e1, e2, _⟩ | ⟨j, y, e, e1, e2, _⟩
  · simp [execOp, hm, hk, Instr.lookup, run_underlying h1, MapKept.run_getObj_map hb, hck, e2, hz, e1]
  · simp [execOp, hm, hk, Instr.lookup, run_underlying h1, MapKept.run_getObj_map hb, hck, e2, e1]

theorem setBlk_keep {w : World} {r : Nat} {o' : Obj} : Keep [r] w { w with heap := w.heap.setIfInBounds r o' } :=
  ⟨rfl, rfl, rfl, by simp, fun k _ hk => by simp [Ne.symm (show k ≠ r by simpa using hk)]⟩
theorem stamped_mod {es : Array MapEntry} {clock j : Nat} {x : Int} {v : Value} (hs : MapKept.Stamped es clock) {e : MapEntry} (he : es[j]? = some e) (hk : e.key = .int .i64 x) : MapKept.Stamped (es.modify j fun e => { e with key := .int .i64 x, val := v }) clock :=
  MapKept.stamped_modify hs _ _ (fun _ _ => rfl) fun e' _ he' => by rw [he] at he'; cases he'; exact hk.symm

theorem W_mapUpdate {T : TypeId} {m k v : Operand} {r : Nat} {x y : Int} {L : List (Int × Int)} [hT : MapT P T] (hm : ev f m = .map (some r)) (hk : ev f k = .int .i64 x) (hv : ev f v = .int .i64 y) (hL : IMap w r L)
    (h : ∀ w', Keep [r] w w' → w'.heap.size = w.heap.size → IMap w' r (insL L x y) → WOps P all Z K rest f ds w') : WOps P all Z K (⟨none, .mapUpdate T m k v, ty, pos, af, none⟩ :: rest) f ds w := by
  obtain ⟨kt, et, i, h1, h2, h3, h4⟩ := hT.out
  have hn := nodup_keys hL
  obtain ⟨es, clock, hb, hs, hmm⟩ := hL
  have hck := MapKept.run_checkKey (P := P) (w := w) (k := .int .i64 x) h2 rfl false 9999
  rcases find_int h2 hmm hn x w with ⟨e1, e2, e3⟩ | ⟨j, y0, e, e1, e2, e3, e4, e5⟩
  · refine W_skp (w' := { w with heap := w.heap.setIfInBounds r (.map (es.push { key := .int .i64 x, val := .int .i64 y, born := clock }) (clock + 1)) }) rfl ?_ (h _ setBlk_keep (by simp) ⟨_, _, (MapKept.heap_set hb).1, MapKept.stamped_push hs e3, ?_⟩)
    · simp [execOp, hm, hk, hv, Instr.mapUpdate, run_underlying h1, MapKept.run_getObj_map hb, hck, e2, MapKept.run_setObj_map _ hb]
    · rw [insL, e1, Array.toList_push, List.map_append, hmm]
      simp [rdE, encP]
  · have hes : es[j]? = some e := e3
    refine W_skp (w' := { w with heap := w.heap.setIfInBounds r (.map (es.modify j fun e => { e with key := .int .i64 x, val := .int .i64 y }) clock) }) rfl ?_ (h _ setBlk_keep (by simp) ⟨_, _, (MapKept.heap_set hb).1, stamped_mod hs hes e5, ?_⟩)
    · have hst : (Instr.keyThatStays (.int .i64 x) (.int .i64 x)).run P w = .ok (.int .i64 x) w := MapKept.run_keyThatStays (d := .int .i64) rfl
      simp [execOp, hm, hk, hv, Instr.mapUpdate, run_underlying h1, MapKept.run_getObj_map hb, hck, e2, hes, e5, hst, MapKept.run_setObj_map _ hb]
    · rw [insL, e1, Option.isSome_some, if_pos rfl]
      apply List.ext_getElem?
      intro q
      have hq := congrArg (fun l => l[q]?) hmm
      simp only [List.getElem?_map] at hq
      simp only [List.getElem?_map, Array.getElem?_toList, Array.getElem?_modify]
      by_cases hqj : j = q
      · subst hqj
        rw [hes, e4]
        simp [rdE, encP]
      · rw [if_neg hqj]
        rw [Array.getElem?_toList] at hq
        rw [hq]
        cases hLq : L[q]? with
        | none => rfl
        | some p =>
          have hne : p.1 ≠ x := by
            intro hpx
            have hi : ∀ a b : Nat, (L.map (·.1))[a]? = some x → (L.map (·.1))[b]? = some x → a = b := by
              intro a b ha hb'
              obtain ⟨ha1, ha2⟩ := List.getElem?_eq_some_iff.1 ha
              obtain ⟨hb1, hb2⟩ := List.getElem?_eq_some_iff.1 hb'
              have hpw := List.pairwise_iff_getElem.1 hn
              rcases Nat.lt_trichotomy a b with hlt | rfl | hlt
              · exact absurd (ha2.trans hb2.symm) (hpw a b ha1 hb1 hlt)
              · rfl
              · exact absurd (hb2.trans ha2.symm) (hpw b a hb1 ha1 hlt)
            exact hqj (hi j q (by simp [e4]) (by simp [hLq, hpx]))
          simp [hne]

theorem lookup_map_set {x y z : Int} : ∀ L : List (Int × Int), (L.lookup x).isSome = true → (L.map (fun p => if p.1 = x then (x, y) else p)).lookup z = if z = x then some y else L.lookup z
  | [], h => by simp at h
  | (a, b) :: L, h => by
    rw [List.map_cons]
    by_cases hax : a = x
    · subst hax
      simp only [if_pos]
      rw [List.lookup_cons, List.lookup_cons]
      by_cases hz : z = a
      · subst hz; simp
      · rw [beq_false_of_ne hz, if_neg hz]
        simp only
        clear h
        induction L with
        | nil => rfl
        | cons q L ih =>
          obtain ⟨c, e⟩ := q
          rw [List.map_cons]
          by_cases hca : c = a
          · subst hca
            simp only [if_pos]
            rw [List.lookup_cons, List.lookup_cons, beq_false_of_ne hz]
            exact ih
          · simp only [if_neg hca]
            rw [List.lookup_cons, List.lookup_cons]
            split
            · rfl
            · exact ih
    · rw [List.lookup_cons, beq_false_of_ne (fun e => hax e.symm)] at h
      simp only [if_neg hax]
      rw [List.lookup_cons, List.lookup_cons, lookup_map_set L h]
      by_cases hza : z = a
      · subst hza; simp [hax]
      · rw [beq_false_of_ne hza]
theorem lookup_snoc {x y z : Int} : ∀ L : List (Int × Int), L.lookup x = none → (L ++ [(x, y)]).lookup z = if z = x then some y else L.lookup z
  | [], _ => by
    by_cases h : z = x
    · subst h; simp
    · simp [List.lookup, h, beq_false_of_ne h]
  | (a, b) :: L, hx => by
    rw [List.lookup_cons] at hx
    split at hx
    · cases hx
    · rename_i hne
      rw [List.cons_append, List.lookup_cons, List.lookup_cons, lookup_snoc L hx]
      by_cases hza : z = a
      · subst hza
        have : z ≠ x := fun e => by subst e; simp at hne
        simp [this]
      · rw [beq_false_of_ne hza]
theorem lookup_insL {L : List (Int × Int)} {x y z : Int} : (insL L x y).lookup z = if z = x then some y else L.lookup z := by
  unfold insL
  cases hx : L.lookup x with
  | none => rw [Option.isSome_none, if_neg (by simp)]; exact lookup_snoc L hx
  | some y0 => rw [Option.isSome_some, if_pos rfl]; exact lookup_map_set L (by rw [hx]; rfl)

/-! ### A range over a map -/
def rdI (e : MapEntry) : Int × Int := (valOf e.key, valOf e.val)
theorem rdI_of {es : List MapEntry} {L : List (Int × Int)} (h : es.map rdE = L.map encP) : (∀ x ∈ es, rdE x = encP (rdI x)) ∧ es.map rdI = L := by
  induction es generalizing L with
  | nil => cases L with
    | nil => exact ⟨fun x hx => by simp at hx, rfl⟩
    | cons _ _ => simp at h
  | cons e es ih => cases L with
    | nil => simp at h
    | cons p L =>
      simp only [List.map_cons, List.cons.injEq] at h
      obtain ⟨h1, h2⟩ := h
      have e1 : e.key = .int .i64 p.1 := congrArg Prod.fst h1
      have e2 : e.val = .int .i64 p.2 := congrArg Prod.snd h1
      have e3 : rdI e = p := by unfold rdI; rw [e1, e2]; rfl
      obtain ⟨i1, i2⟩ := ih h2
      refine ⟨fun x hx => ?_, by rw [List.map_cons, e3, i2]⟩
      rcases List.mem_cons.1 hx with rfl | hx
      · rw [e3]; exact h1
      · exact i1 x hx
/-- block it holds an iterator over the map in block r; left is still to come -/
def Iter (w : World) (it r : Nat) (left : List (Int × Int)) : Prop :=
  ∃ es clock since c0 seen, w.heap[it]? = some (.mapIter (some r) since seen c0) ∧ w.heap[r]? = some (.map es clock) ∧ MapKept.Stamped es clock ∧ (∀ x ∈ es.toList, x.born < since) ∧ since ≤ c0 ∧ since ≤ clock ∧
    (∀ x ∈ es.toList, rdE x = encP (rdI x)) ∧ (leftOf es seen).toList.map rdI = left
/-- p has just come out -/
def Cur (w : World) (it r : Nat) (p : Int × Int) : Prop :=
  ∃ (es : Array MapEntry) (clock since : Nat) (seen : Array Nat) (e : MapEntry), w.heap[it]? = some (.mapIter (some r) since (seen.push e.born) clock) ∧ w.heap[r]? = some (.map es clock) ∧ e ∈ es.toList ∧ (es.toList.map (·.born)).Nodup ∧ rdE e = encP p

theorem Iter.keep {X : List Nat} {w' : World} {it r : Nat} {left : List (Int × Int)} (h : Iter w it r left) (k : Keep X w w') (h1 : it ∉ X) (h2 : r ∉ X) : Iter w' it r left := by
  obtain ⟨es, clock, since, c0, seen, a, b, c⟩ := h
  exact ⟨es, clock, since, c0, seen, (k.block it (Array.getElem?_eq_some_iff.1 a).1 h1).trans a, (k.block r (Array.getElem?_eq_some_iff.1 b).1 h2).trans b, c⟩
theorem Cur.keep {X : List Nat} {w' : World} {it r : Nat} {p : Int × Int} (h : Cur w it r p) (k : Keep X w w') (h1 : it ∉ X) (h2 : r ∉ X) : Cur w' it r p := by
  obtain ⟨es, clock, since, seen, e, a, b, c⟩ := h
  exact ⟨es, clock, since, seen, e, (k.block it (Array.getElem?_eq_some_iff.1 a).1 h1).trans a, (k.block r (Array.getElem?_eq_some_iff.1 b).1 h2).trans b, c⟩

theorem W_rangeMap {T : TypeId} {m : Operand} {r : Nat} {L : List (Int × Int)} [hT : MapT P T] (hm : ev f m = .map (some r)) (hL : IMap w r L)
    (h : ∀ w', Ext w w' → w'.heap.size = w.heap.size + 1 → Iter w' w.heap.size r L → WOps P all Z K rest (upd f d (.pointer (some ⟨w.heap.size, 0, none⟩))) ds w') : WOps P all Z K (⟨some d, .range T m, ty, pos, af, none⟩ :: rest) f ds w := by
  obtain ⟨kt, et, i, h1, _⟩ := hT.out
  have hlt := hL.lt
  obtain ⟨es, clock, hb, hs, hmm⟩ := hL
  refine W_val (v := .pointer (some ⟨w.heap.size, 0, none⟩)) (w' := w.alloc (.mapIter (some r) clock #[] clock)) rfl ?_
    (h _ ⟨rfl, rfl, rfl, by simp, fun k hk _ => heap_alloc_old w _ hk⟩ (by simp) ⟨es, clock, clock, clock, #[], heap_alloc_new w _, (heap_alloc_old w _ hlt).trans hb, hs, hs.1, Nat.le_refl _, Nat.le_refl _, (rdI_of hmm).1, ?_⟩)
  · simp [execOp, hm, run_range_map w T _ _ r es clock h1 hb]
  · have e : leftOf es #[] = es := by
      unfold leftOf
      exact Array.filter_eq_self.2 fun x _ => by simp
    rw [e]; exact (rdI_of hmm).2

theorem setBlock_keep {w : World} {it : Nat} {o : Obj} : Keep [it] w (setBlock w it o) :=
  ⟨rfl, rfl, rfl, by simp [setBlock], fun k _ hk => by simp [setBlock, Ne.symm (show k ≠ it by simpa using hk)]⟩

theorem W_nextMap {it : Operand} {b r : Nat} {left : List (Int × Int)} (hi : ev f it = .pointer (some ⟨b, 0, none⟩)) (hI : Iter w b r left) (hne : b ≠ r)
    (hd : left = [] → WOps P all Z K rest (upd f d (.tuple #[.bool false])) ds w)
    (hm : ∀ p w', p ∈ left → Keep [b] w w' → w'.heap.size = w.heap.size → Iter w' b r (left.filter fun q => !(q.1 == p.1)) → Cur w' b r p → WOps P all Z K rest (upd f d (.tuple #[.bool true, .int .i64 p.1, .int .i64 p.2])) ds w') :
    WOps P all Z K (⟨some d, .next it false, ty, pos, af, none⟩ :: rest) f ds w := by
  obtain ⟨es, clock, since, c0, seen, a, hb, hs, h1, h2, h2', hL, h3⟩ := hI
  rcases run_next_at (P := P) w ty b r since c0 seen es clock a hb h1 h2 with ⟨h0, hr⟩ | ⟨e, he, w1, hw1, hr⟩
  · have hl : left = [] := by
      have := congrArg List.length h3
      simp only [List.length_map, Array.length_toList, h0] at this
      exact List.eq_nil_of_length_eq_zero this.symm
    exact W_val rfl (by simp [execOp, hi, hr]) (hd hl)
  · have hmem := mem_left he
    have hpe := hL e hmem.1
    have ek : e.key = .int .i64 (rdI e).1 := congrArg Prod.fst hpe
    have ev' : e.val = .int .i64 (rdI e).2 := congrArg Prod.snd hpe
    have kw1 : w1.os = w.os ∧ w1.tape = w.tape ∧ w1.output = w.output ∧ w1.heap = w.heap := by rcases hw1 with rfl | rfl <;> exact ⟨rfl, rfl, rfl, rfl⟩
    have a1 : w1.heap[b]? = some (.mapIter (some r) since seen c0) := by rw [kw1.2.2.2]; exact a
    have b1 : w1.heap[r]? = some (.map es clock) := by rw [kw1.2.2.2]; exact hb
    have hit : (setBlock w1 b (.mapIter (some r) since (seen.push e.born) clock)).heap[b]? = some (.mapIter (some r) since (seen.push e.born) clock) := (MapKept.heap_set a1).1
    have hbr : (setBlock w1 b (.mapIter (some r) since (seen.push e.born) clock)).heap[r]? = some (.map es clock) := ((MapKept.heap_set a1).2 r (Ne.symm hne)).trans b1
    have hk : Keep [b] w (setBlock w1 b (.mapIter (some r) since (seen.push e.born) clock)) := by
      have k2 := setBlock_keep (w := w1) (it := b) (o := .mapIter (some r) since (seen.push e.born) clock)
      refine ⟨k2.os.trans kw1.1, k2.tape.trans kw1.2.1, k2.output.trans kw1.2.2.1, by have := k2.size; rw [kw1.2.2.2] at this; exact this, fun i hi1 hi2 => ?_⟩
      have := k2.block i (by rw [kw1.2.2.2]; exact hi1) hi2
      rw [this, kw1.2.2.2]
    have hsz : (setBlock w1 b (.mapIter (some r) since (seen.push e.born) clock)).heap.size = w.heap.size := by
      show (w1.heap.setIfInBounds b _).size = _
      rw [Array.size_setIfInBounds, kw1.2.2.2]
    refine W_val (v := .tuple #[.bool true, e.key, e.val]) (w' := setBlock w1 b (.mapIter (some r) since (seen.push e.born) clock)) rfl (by simp [execOp, hi, hr]) ?_
    rw [ek, ev']
    refine hm (rdI e) _ (by rw [← h3]; exact List.mem_map.2 ⟨e, he, rfl⟩) hk hsz ⟨es, clock, since, clock, seen.push e.born, hit, hbr, hs, h1, h2', h2', hL, ?_⟩ ⟨es, clock, since, seen, e, hit, hbr, hmem.1, hs.2.1, hpe⟩
    have hf : (leftOf es (seen.push e.born)).toList = (leftOf es seen).toList.filter fun x => !((rdI x).1 == (rdI e).1) := by
      unfold leftOf
      rw [Array.toList_filter, Array.toList_filter, List.filter_filter]
      refine List.filter_congr fun x hx => ?_
      rw [contains_push]
      have hx1 : x.born = e.born ↔ (rdI x).1 = (rdI e).1 := by
        constructor
        · intro hh
          rw [born_inj hs.2.1 hx hmem.1 hh]
        · intro hh
          have hkk : x.key = e.key := by rw [show x.key = .int .i64 (rdI x).1 from congrArg Prod.fst (hL x hx), ek, hh]
          have hnk := hs.2.2
          have : x = e := by
            obtain ⟨i, hi'⟩ := List.getElem?_of_mem hx
            obtain ⟨j, hj'⟩ := List.getElem?_of_mem hmem.1
            obtain ⟨hi1, hi2⟩ := List.getElem?_eq_some_iff.1 hi'
            obtain ⟨hj1, hj2⟩ := List.getElem?_eq_some_iff.1 hj'
            have hpw := List.pairwise_iff_getElem.1 hnk
            rcases Nat.lt_trichotomy i j with hlt | rfl | hlt
            · exact absurd (by rw [List.getElem_map, List.getElem_map, hi2, hj2, hkk]) (hpw i j (by simpa using hi1) (by simpa using hj1) hlt)
            · exact hi2.symm.trans hj2
            · exact absurd (by rw [List.getElem_map, List.getElem_map, hi2, hj2, hkk]) (hpw j i (by simpa using hj1) (by simpa using hi1) hlt)
          rw [this]
      by_cases hc : x.born = e.born
      · rw [hx1.1 hc]; simp [hc]
      · rw [beq_false_of_ne hc, beq_false_of_ne fun h => hc (hx1.2 h)]; simp
    rw [hf, ← h3, List.filter_map]
    rfl

theorem W_entryMap {it : Operand} {b r : Nat} {p : Int × Int} (hi : ev f it = .pointer (some ⟨b, 0, none⟩)) (hC : Cur w b r p) (h : WOps P all Z K rest (upd f d (.tuple #[.int .i64 p.1, .int .i64 p.2])) ds w) :
    WOps P all Z K (⟨some d, .entry it, ty, pos, af, none⟩ :: rest) f ds w := by
  obtain ⟨es, clock, since, seen, e, a, hb, he, hn, hp⟩ := hC
  have hr := run_entry_at (P := P) w b r since seen es clock e a hb he hn
  refine W_val rfl ?_ h
  rw [show e.key = .int .i64 p.1 from congrArg Prod.fst hp, show e.val = .int .i64 p.2 from congrArg Prod.snd hp] at hr
  simp [execOp, hi, hr]

/-! ### max, min -/
theorem W_max {x y : Operand} {a b : Int} {T1 T2 : TypeId} (hx : ev f x = .int .i64 a) (hy : ev f y = .int .i64 b) (h : WOps P all Z K rest (upd f d (.int .i64 (max a b))) ds w) :
    WOps P all Z K (⟨some d, .call ⟨.builtin .max, #[x, y], #[T1, T2]⟩, ty, pos, af, none⟩ :: rest) f ds w := by
  refine W_val rfl ?_ h
  simp [execOp, resolve, invoke, builtin, hx, hy, Builtin.max_, Builtin.max2]
  split <;> omega
theorem W_min {x y : Operand} {a b : Int} {T1 T2 : TypeId} (hx : ev f x = .int .i64 a) (hy : ev f y = .int .i64 b) (h : WOps P all Z K rest (upd f d (.int .i64 (min a b))) ds w) :
    WOps P all Z K (⟨some d, .call ⟨.builtin .min, #[x, y], #[T1, T2]⟩, ty, pos, af, none⟩ :: rest) f ds w := by
  refine W_val rfl ?_ h
  simp [execOp, resolve, invoke, builtin, hx, hy, Builtin.min_, Builtin.min2]
  split <;> omega
end Go.Proofs.Yticliabmhgofjaa
