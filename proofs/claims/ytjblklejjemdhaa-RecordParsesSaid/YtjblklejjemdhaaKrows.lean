/- A slice of slices of bytes that came in, opened as a list of lists. Over any program. -/
import Derived.Test.YtjblklejjemdhaaKbase
import Derived.Deep.Matrix
namespace Go.Proofs.Ytjblklejjemdhaa.Kbase
open Go.RowKit Go.Proofs.YtjblklejjemdhaaW.PrintWords Go.ChangeShapes Go.WideShapes Go.Deep
section
variable {H : Type} {enc : TypeId × Value → H} {P : Program} {w : World} {base : Nat} {held : Bool}
theorem open_byte_rows {t e q : TypeId} {A : Option Addr} {len cap : Nat} {d : DataW H} {ps : List MemPlace} (ht : P.underlying t = some (.slice e)) (he : P.underlying e = some (.slice q)) (hq : P.underlying q = some (.int .u8))
    (ce : P.cellsOf e = 1) (cq : P.cellsOf q = 1) (h : DataW.Trod enc P w base (fun _ => true) held t (.slice A len cap) d ps) :
    ∃ l : List (List Int), len = l.length ∧ l.length ≤ cap ∧ Kd.C (Kd.slice q (Kd.int .u8)) w A l.length l ∧ ∀ b ∈ l, Bytes b := by
  obtain ⟨fuel, hf⟩ := h
  rcases open_int_rows ht he hq ce cq hf with ⟨hcs, _⟩ | ⟨a, len', cap', Ad, L, C, Z, hcs, _, hl, hm, _, hrow⟩
  · simp [Value.cells] at hcs
    obtain ⟨rfl, rfl, rfl⟩ := hcs
    exact ⟨[], rfl, Nat.le_refl _, ⟨rfl, by simp, fun h => absurd h (by simp)⟩, by simp⟩
  · simp [Value.cells] at hcs
    obtain ⟨rfl, rfl, rfl⟩ := hcs
    have hlen : ((List.range len).map fun r => (Z r).take (L r)).length = len := by simp
    have hlr : ∀ r, r < len → ((Z r).take (L r)).length = L r := fun r hr => by
      have := hrow r (by omega)
      rw [List.length_take]
      omega
    refine ⟨(List.range len).map fun r => (Z r).take (L r), hlen.symm, by rw [hlen]; exact hl, ⟨rfl, by rw [hlen]; unfold maxLen at hm; omega, fun _ => ⟨a, rfl, fun j p hj => ?_⟩⟩, fun b hb => ?_⟩
    · obtain ⟨hj1, hp⟩ := List.getElem?_eq_some_iff.1 hj
      rw [hlen] at hj1
      simp only [List.getElem_map, List.getElem_range] at hp
      obtain ⟨hc, h1, h2, h3, h4, h5, h6⟩ := hrow j (by omega)
      have hpl : p.length = L j := by rw [← hp]; exact hlr j hj1
      refine ⟨[.slice (Ad j) p.length (C j)], rfl, ⟨Ad j, C j, rfl, by omega, ?_⟩, fun i u hu => ?_⟩
      · have hr : ReadsInt w .u8 (Ad j) p.length p := by
          refine ⟨rfl, by unfold maxLen at h2; omega, fun hp0 => ?_⟩
          cases hA : Ad j with
          | none => have := h5 hA; omega
          | some a' =>
            refine ⟨a', rfl, fun i hi => ?_⟩
            rw [(h6 a' hA).2 i (by omega), ← hp, List.getD_eq_getElem?_getD, List.getD_eq_getElem?_getD, List.getElem?_take, if_pos (by omega)]
        exact Kd.C_of_reads (d := (0 : Int)) (h1 := fun _ => rfl) hr
      · cases i with
        | zero =>
          simp only [List.getElem?_cons_zero, Option.some.injEq] at hu
          rw [← hu, hpl]
          show w.cell? (a.add (j * 1 + 0)) = _
          rw [Nat.mul_one, Nat.add_zero]
          exact hc
        | succ i => simp at hu
    · simp only [List.mem_map, List.mem_range] at hb
      obtain ⟨r, hr, rfl⟩ := hb
      obtain ⟨hc, h1, h2, h3, h4, h5, h6⟩ := hrow r (by omega)
      exact bytes_wf (fun n hn => h4 n (List.mem_of_mem_take hn))
end
end Go.Proofs.Ytjblklejjemdhaa.Kbase
