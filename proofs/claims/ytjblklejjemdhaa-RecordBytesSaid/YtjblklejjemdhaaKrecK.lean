/- A record that comes in, opened. -/
import Derived.Test.YtjblklejjemdhaaRows
import Derived.Test.YtjblklejjemdhaaKcrcF
import Derived.Test.YtjblklejjemdhaaWSized
import Derived.WalkKit
import Derived.ProofKit
import Derived.OpenShut
import Derived.ShutString
import Derived.ChangeOld
import Derived.Below
import Derived.SizedLaws
namespace Go.Proofs.Ytjblklejjemdhaa.Krec
open Go.ChangeShapes Go.WideShapes Go.ChangeAt Go.RowKit Go.Proofs.YtjblklejjemdhaaW Go.Proofs.YtjblklejjemdhaaW.PrintWords Kbase
set_option linter.unusedVariables false
set_option linter.unusedSimpArgs false
theorem cells37 : Try.prog.cellsOf 37 = 7 := by kernel_rfl
theorem cells30 : Try.prog.cellsOf 30 = 1 := by kernel_rfl
theorem cells5 : Try.prog.cellsOf 5 = 1 := by kernel_rfl
theorem cells24 : Try.prog.cellsOf 24 = 1 := by kernel_rfl
theorem nat_of {k : IntKind} {n : Int} {m : Nat} (h : (Lit.int k n).wf = true) (hk : k = .u32 ∧ m = 4294967296 ∨ k = .u8 ∧ m = 256) : ∃ a : Nat, n = (a : Int) ∧ a < m := by
  rcases hk with ⟨rfl, rfl⟩ | ⟨rfl, rfl⟩ <;>
    · simp [Lit.wf, IntKind.min, IntKind.max, IntKind.signed, IntKind.bits] at h
      obtain ⟨a, rfl⟩ := Int.eq_ofNat_of_zero_le h.1
      exact ⟨a, rfl, by omega⟩
def IsRow' (w : World) (a : Option Addr) (len cap : Nat) (zs : List Int) : Prop :=
  (a = none ∧ len = 0 ∧ cap = 0 ∧ zs = []) ∨
  ∃ x, a = some x ∧ len ≤ cap ∧ cap ≤ maxLen ∧ zs.length = cap ∧ (∀ i, i < zs.length → w.cell? (x.add i) = some (.int .u8 (zs.getD i 0))) ∧ ∀ n ∈ zs, (Lit.int .u8 n).wf = true
theorem field_of {H : Type} {enc : TypeId × Value → H} {W : World} {n : Nat} {fs : Array Field} {cs : List Value} {ys : List (DataW H × List MemPlace)}
    (hf : ∀ (i : Nat) (f : Field), fs[i]? = some f → DataW.trod enc Try.prog W 0 (fun _ => true) true n f.type (List.take (Try.prog.cellsOf f.type) (List.drop f.offset cs)) = ys[i]?)
    (i : Nat) (f : Field) (h : fs[i]? = some f) (t : TypeId) (off : Nat) (ht : f.type = t) (ho : f.offset = off) (hc : Try.prog.cellsOf t = 1) (c : Value) (y : DataW H × List MemPlace) (hcs : (cs.drop off).take 1 = [c]) (hy : ys[i]? = some y) :
    DataW.trod enc Try.prog W 0 (fun _ => true) true n t [c] = some y := by
  have := hf i f h
  rwa [ht, ho, hc, hcs, hy] at this
theorem open_rec {H : Type} {enc : TypeId × Value → H} {W : World} {base : Nat} {v : Value} {dw : DataW H} {ps : List MemPlace} (hok : Value.okWide Try.prog W .any base 37 v) (hT : DataW.Trod enc Try.prog W 0 (fun _ => true) true 37 v dw ps) :
    ∃ (s f b m p d : Nat) (A : Option Addr) (c : Nat) (xs : List Int), v = .agg #[.int .u32 (s : Int), .int .u32 (f : Int), .int .u32 (b : Int), .int .u32 (m : Int), .int .u8 (p : Int), .int .u32 (d : Int), .slice A xs.length c] ∧
      s < 4294967296 ∧ f < 4294967296 ∧ b < 4294967296 ∧ m < 4294967296 ∧ p < 256 ∧ d < 4294967296 ∧ (Kd.int .u8).C W A xs.length xs ∧ xs.length ≤ c ∧ Bytes xs := by
  obtain ⟨fuel, hv⟩ := hT
  obtain ⟨ys, n, _, _, hl, hlen, hf⟩ := DataW.trod_struct Try.underlying37 hv
  rw [cells37] at hl
  obtain ⟨c0, c1, c2, c3, c4, c5, c6, hc⟩ : ∃ c0 c1 c2 c3 c4 c5 c6, v.cells.toList = [c0, c1, c2, c3, c4, c5, c6] := by
    match hcs : v.cells.toList, hl with
    | [a0, a1, a2, a3, a4, a5, a6], _ => exact ⟨a0, a1, a2, a3, a4, a5, a6, rfl⟩
  rw [hc] at hf
  match ys, hlen with
  | [y0, y1, y2, y3, y4, y5, y6], _ =>
    have u0 := field_of hf 0 _ rfl 30 0 rfl rfl cells30 c0 y0 rfl rfl
    have u1 := field_of hf 1 _ rfl 30 1 rfl rfl cells30 c1 y1 rfl rfl
    have u2 := field_of hf 2 _ rfl 30 2 rfl rfl cells30 c2 y2 rfl rfl
    have u3 := field_of hf 3 _ rfl 30 3 rfl rfl cells30 c3 y3 rfl rfl
    have u4 := field_of hf 4 _ rfl 5 4 rfl rfl cells5 c4 y4 rfl rfl
    have u5 := field_of hf 5 _ rfl 30 5 rfl rfl cells30 c5 y5 rfl rfl
    have u6 := field_of hf 6 _ rfl 24 6 rfl rfl cells24 c6 y6 rfl rfl
    obtain ⟨e0, hc0, _, w0⟩ := DataW.trod_int Try.underlying30 u0
    obtain ⟨e1, hc1, _, w1⟩ := DataW.trod_int Try.underlying30 u1
    obtain ⟨e2, hc2, _, w2⟩ := DataW.trod_int Try.underlying30 u2
    obtain ⟨e3, hc3, _, w3⟩ := DataW.trod_int Try.underlying30 u3
    obtain ⟨e4, hc4, _, w4⟩ := DataW.trod_int Try.underlying5 u4
    obtain ⟨e5, hc5, _, w5⟩ := DataW.trod_int Try.underlying30 u5
    obtain ⟨A, len, cap, zs, hc6, hrow⟩ : ∃ A len cap zs, c6 = .slice A len cap ∧ IsRow' W A len cap zs := by
      rcases open_ints Try.underlying24 Try.underlying5 cells5 u6 with ⟨hcs, _⟩ | ⟨x, l, c, zs, hcs, _, hl, hm, hz, _, hcell, hwz⟩
      · simp only [List.cons.injEq, and_true] at hcs
        exact ⟨none, 0, 0, [], hcs, .inl ⟨rfl, rfl, rfl, rfl⟩⟩
      · simp only [List.cons.injEq, and_true] at hcs
        exact ⟨some x, l, c, zs, hcs, .inr ⟨_, rfl, hl, hm, by simpa using hz, hcell, hwz⟩⟩
    simp only [List.cons.injEq, and_true] at hc0 hc1 hc2 hc3 hc4 hc5
    subst hc0 hc1 hc2 hc3 hc4 hc5 hc6
    obtain ⟨s, rfl, hs⟩ := nat_of w0 (.inl ⟨rfl, rfl⟩)
    obtain ⟨f, rfl, hf'⟩ := nat_of w1 (.inl ⟨rfl, rfl⟩)
    obtain ⟨b, rfl, hb⟩ := nat_of w2 (.inl ⟨rfl, rfl⟩)
    obtain ⟨m, rfl, hm⟩ := nat_of w3 (.inl ⟨rfl, rfl⟩)
    obtain ⟨p, rfl, hp⟩ := nat_of w4 (.inr ⟨rfl, rfl⟩)
    obtain ⟨d, rfl, hd⟩ := nat_of w5 (.inl ⟨rfl, rfl⟩)
    obtain ⟨l0, rfl, hr0, hm0, hw0, hcap⟩ := ReadsInt.ofRowC hrow
    refine ⟨s, f, b, m, p, d, A, cap, l0, ?_, hs, hf', hb, hm, hp, hd, Kd.C_of_reads (d := (0 : Int)) (h1 := fun _ => rfl) hr0, hcap, Kbase.bytes_wf hw0⟩
    cases v <;> simp [Value.cells, Value.okWide, Try.underlying37] at hc hok ⊢
    rename_i cs
    obtain ⟨l⟩ := cs
    simpa using hc
end Go.Proofs.Ytjblklejjemdhaa.Krec
