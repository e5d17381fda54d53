/- Helpers for the facts on a program's types. Conditions: none. -/
import Derived.Test.YteonolnfgppagaaDoorOps3
import Derived.KernelRfl
namespace Go.Proofs.YteonolnfgppagaaDoor
variable {P : Program} {T : TypeId}

theorem sizeT_of {n : Nat} (h : (P.info? T).map (·.size) = some n) : SizeT P T n := by
  obtain ⟨i, hi, hs⟩ := Option.map_eq_some_iff.1 h
  exact ⟨i, hi, hs⟩
theorem aggT_of {n : Nat} {d : TypeDesc} (hu : P.underlying T = some d) (hd : aggD d = true) (h : (P.info? T).map (·.size) = some n) : AggT P T n := by
  obtain ⟨i, hi, hs⟩ := Option.map_eq_some_iff.1 h
  exact ⟨⟨d, hu, hd⟩, i, hi, hs⟩
theorem zeroT_of {z : Value} {L : List Value} (h : (P.info? T).map (·.zero) = some (some z)) (hz : z.cells = L.toArray) : ZeroT P T L := by
  obtain ⟨i, hi, hs⟩ := Option.map_eq_some_iff.1 h
  exact ⟨i, z, hi, hs, hz⟩
theorem slT_of {e size bytes : Nat} {z : Value} (hu : P.underlying T = some (.slice e)) (h : (P.info? e).map (fun i => (i.zero, i.size, i.bytes)) = some (some z, size, bytes)) : SlT P T e size bytes z := by
  obtain ⟨i, hi, hzz⟩ := Option.map_eq_some_iff.1 h
  simp only [Prod.mk.injEq] at hzz
  exact ⟨hu, i, hi, hzz.1, hzz.2.1, hzz.2.2⟩
theorem arrT_of {len e size : Nat} (hu : P.underlying T = some (.array len e)) (h : (P.info? e).map (·.size) = some size) : ArrT P T len e size := by
  obtain ⟨i, hi, hs⟩ := Option.map_eq_some_iff.1 h
  exact ⟨hu, i, hi, hs⟩
theorem fieldT_of {i off : Nat} {ft : TypeId} {fs : Array Field} {fld : Field} {s : Nat} (hu : P.underlying T = some (.struct fs)) (hf : fs[i]? = some fld) (ho : fld.offset = off) (ht : fld.type = ft) (h : (P.info? ft).map (·.size) = some (s + 1)) : FieldT P T i off ft := by
  obtain ⟨j, hj, hs⟩ := Option.map_eq_some_iff.1 h
  exact ⟨fs, fld, hu, hf, ho, ht, j, hj, by omega⟩
theorem plainFn_of {g : FuncId} {fn : Func} (h1 : P.funcs[g]? = some fn) (h2 : (fn.name == "runtime.NumGoroutine") = false) (h3 : fn.body.isNone = false) : PlainFn P g := by
  refine ⟨fn, h1, fun e => ?_, fun e => ?_⟩
  · rw [e] at h2; simp at h2
  · rw [e] at h3; simp at h3

theorem places_run : ∀ (fs : List Field) (places : List (Nat × Nat)), fs.map (fun f => (f.offset, (P.info? f.type).map (·.size))) = places.map (fun p => (p.1, some p.2)) →
    ∀ w, (fs.mapM (m := Sem) fun f => do pure (f.offset, ← sizeOf f.type)).run P w = .ok places w
  | [], [], _, w => by simp
  | [], _ :: _, h, _ => by simp at h
  | _ :: _, [], h, _ => by simp at h
  | f :: fs, p :: places, h, w => by
    simp only [List.map_cons, List.cons.injEq, Prod.mk.injEq] at h
    obtain ⟨⟨h1, h2⟩, h3⟩ := h
    obtain ⟨i, hi, hs⟩ := Option.map_eq_some_iff.1 h2
    have ih := places_run fs places h3 w
    have hsz : (sizeOf f.type).run P w = .ok p.2 w := by simp [sizeOf, typeInfo, hi, hs]
    simp only [List.mapM_cons, Sem.run_bind, hsz, Sem.run_pure, Result.andThen_ok]
    rw [ih]
    simp [h1]

theorem stT_of {fs : Array Field} {z : Value} {places : List (Nat × Nat)} {zero : List Value} (hu : P.underlying T = some (.struct fs)) (h : (P.info? T).map (·.zero) = some (some z)) (hz : z.cells = zero.toArray)
    (hp : fs.toList.map (fun f => (f.offset, (P.info? f.type).map (·.size))) = places.map (fun p => (p.1, some p.2))) : StT P T places zero := by
  obtain ⟨i, hi, hs⟩ := Option.map_eq_some_iff.1 h
  refine ⟨fs, i, z, hu, hi, hs, hz, fun w => ?_⟩
  have := places_run fs.toList places hp w
  rw [Array.mapM_eq_mapM_toList]
  have hm : ∀ (x : Sem (List (Nat × Nat))), (Functor.map List.toArray x : Sem (Array (Nat × Nat))) = x >>= fun l => pure l.toArray := fun _ => rfl
  rw [hm, Sem.run_bind, this]
  simp

end Go.Proofs.YteonolnfgppagaaDoor
