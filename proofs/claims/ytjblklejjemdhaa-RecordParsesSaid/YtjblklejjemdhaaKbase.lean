/- Small facts on lists of bytes and on strings made of them. No program. -/
import Derived.Test.YtjblklejjemdhaaWMore
import Derived.Laws.Rows
namespace Go.Proofs.Ytjblklejjemdhaa.Kbase
open Go.RowKit Go.Proofs.YtjblklejjemdhaaW.PrintWords
/-- Each number of the list is a byte. -/
def Bytes (xs : List Int) : Prop := ∀ n ∈ xs, 0 ≤ n ∧ n ≤ 255
theorem str_list (xs : List Int) : (strOfNums xs).toList = xs.map fun n => UInt8.ofNat n.toNat := by
  rw [ByteArray.toList_eq]
  simp [strOfNums]
theorem ofNat_inj {a b : Int} (ha : 0 ≤ a ∧ a ≤ 255) (hb : 0 ≤ b ∧ b ≤ 255) (h : UInt8.ofNat a.toNat = UInt8.ofNat b.toNat) : a = b := by
  have h1 := congrArg UInt8.toNat h
  rw [UInt8.toNat_ofNat', UInt8.toNat_ofNat'] at h1
  omega
theorem map_inj : ∀ {xs ys : List Int}, Bytes xs → Bytes ys → (xs.map fun n => UInt8.ofNat n.toNat) = (ys.map fun n => UInt8.ofNat n.toNat) → xs = ys
  | [], [], _, _, _ => rfl
  | [], _ :: _, _, _, h => by simp at h
  | _ :: _, [], _, _, h => by simp at h
  | x :: xs, y :: ys, hx, hy, h => by
    rw [List.map_cons, List.map_cons] at h
    injection h with h1 h2
    rw [ofNat_inj (hx x List.mem_cons_self) (hy y List.mem_cons_self) h1, map_inj (fun n hn => hx n (List.mem_cons_of_mem _ hn)) (fun n hn => hy n (List.mem_cons_of_mem _ hn)) h2]
theorem str_inj {xs ys : List Int} (hx : Bytes xs) (hy : Bytes ys) (h : (strOfNums xs).toList = (strOfNums ys).toList) : xs = ys := by
  rw [str_list, str_list] at h
  exact map_inj hx hy h
/-- '==' of two strings made of bytes. -/
theorem str_beq {xs ys : List Int} (hx : Bytes xs) (hy : Bytes ys) : ((strOfNums xs).toList == (strOfNums ys).toList) = decide (xs = ys) := by
  by_cases h : xs = ys
  · rw [h]; simp
  · have h2 : ¬ (strOfNums xs).toList = (strOfNums ys).toList := fun e => h (str_inj hx hy e)
    rw [decide_eq_false h]
    exact beq_eq_false_iff_ne.2 h2
theorem bytes_wf {xs : List Int} (h : ∀ n ∈ xs, (Lit.int .u8 n).wf = true) : Bytes xs := fun n hn => by
  have := h n hn
  simp [Lit.wf, IntKind.min, IntKind.max, IntKind.signed, IntKind.bits] at this
  omega
theorem bytes_append {xs ys : List Int} (hx : Bytes xs) (hy : Bytes ys) : Bytes (xs ++ ys) := fun n hn => by
  rcases List.mem_append.1 hn with h | h
  · exact hx n h
  · exact hy n h
/-- A row just made, without elements. -/
theorem R_empty (W : World) (base e : Nat) (hb : base ≤ W.heap.size) : (Kd.int .u8).R e (W.alloc (.cells #[] e)) base (fun _ => True) (.slice (some ⟨W.heap.size, 0, none⟩) 0 0) [] := by
  have h := own_lit W base e .u8 [] hb (by simp)
  exact Kd.R_of_own (by simpa [nums, encs] using h) (fun _ _ => trivial)
/-- The box of a variadic call's one argument, which lies where it lay. -/
theorem C_box {W : World} {A : Option Addr} {n c : Nat} {b : List Int} {e q : Nat} (h : (Kd.int .u8).C W A n b) (hn : b.length = n) (hc : n ≤ c) :
    Kd.C (Kd.slice q (Kd.int .u8)) (W.alloc (.cells #[.slice A n c] e)) (some ⟨W.heap.size, 0, none⟩) 1 [b] := by
  subst hn
  refine ⟨rfl, by decide, fun _ => ⟨_, rfl, fun j p hj => ?_⟩⟩
  cases j with
  | succ j => simp at hj
  | zero =>
    simp only [List.getElem?_cons_zero, Option.some.injEq] at hj
    subst hj
    refine ⟨[.slice A b.length c], rfl, ⟨A, c, rfl, hc, Kd.C_alloc h _⟩, fun i u hu => ?_⟩
    cases i with
    | succ i => simp at hu
    | zero =>
      simp only [List.getElem?_cons_zero, Option.some.injEq] at hu
      rw [← hu]
      show (W.alloc (.cells #[.slice A b.length c] e)).cell? ((⟨W.heap.size, 0, none⟩ : Addr).add (0 * 1 + 0)) = _
      rw [add_plain]
      simp
/-- A cell of a row of numbers that is read. -/
theorem C_at {W : World} {A : Option Addr} {k : IntKind} {n : Nat} {xs : List Int} (h : (Kd.int k).C W A n xs) (i : Nat) (hi : i < n) (hx : i < xs.length) : ∃ ad, A = some ad ∧ W.cell? (ad.add i) = some (.int k xs[i]) := by
  obtain ⟨ad, c, e, _, hK, hc⟩ := Kd.C_get h (0 : Int) (i : Int) (by omega) (by omega)
  have hK' : c = [.int k (xs.getD i 0)] := hK
  have hc' : ∀ j u, c[j]? = some u → W.cell? (ad.add (i * 1 + j)) = some u := hc
  refine ⟨ad, e, ?_⟩
  have h1 := hc' 0 (.int k (xs.getD i 0)) (by rw [hK']; rfl)
  rw [Nat.mul_one, Nat.add_zero] at h1
  rw [h1, List.getD_eq_getElem?_getD, List.getElem?_eq_getElem hx, Option.getD_some]
/-- A row of a row of rows that is read. -/
theorem C_row_at {W : World} {A : Option Addr} {q n : Nat} {l : List (List Int)} (h : (Kd.slice q (Kd.int .u8)).C W A n l) (i : Nat) (hi : i < n) (hx : i < l.length) :
    ∃ ad A1 c1, A = some ad ∧ W.cell? (ad.add i) = some (.slice A1 l[i].length c1) ∧ l[i].length ≤ c1 ∧ (Kd.int .u8).C W A1 l[i].length l[i] := by
  obtain ⟨ad, c, e, _, hK, hc⟩ := Kd.C_get h ([] : List Int) (i : Int) (by omega) (by omega)
  have hg : l.getD i [] = l[i] := by rw [List.getD_eq_getElem?_getD, List.getElem?_eq_getElem hx, Option.getD_some]
  have hK' : ∃ A1 c1, c = [.slice A1 (l.getD i []).length c1] ∧ (l.getD i []).length ≤ c1 ∧ (Kd.int .u8).C W A1 (l.getD i []).length (l.getD i []) := hK
  have hc' : ∀ j u, c[j]? = some u → W.cell? (ad.add (i * 1 + j)) = some u := hc
  rw [hg] at hK'
  obtain ⟨A1, c1, e1, hl, hC⟩ := hK'
  refine ⟨ad, A1, c1, e, ?_, hl, hC⟩
  have h1 := hc' 0 (.slice A1 l[i].length c1) (by rw [e1]; rfl)
  rwa [Nat.mul_one, Nat.add_zero] at h1
/-- A row of bytes just made, marked or not. -/
theorem C_lit (W : World) (e : Nat) (fr : Nat × Nat) (k : IntKind) (xs : List Int) (hm : xs.length ≤ 9223372036854775807) : (Kd.int k).C (W.alloc (.cells (nums k xs).toArray e fr)) (some ⟨W.heap.size, 0, none⟩) xs.length xs := by
  have hr : ReadsInt (W.alloc (.cells (nums k xs).toArray e fr)) k (some ⟨W.heap.size, 0, none⟩) xs.length xs := by
    refine ⟨rfl, hm, fun _ => ⟨_, rfl, fun j hj => ?_⟩⟩
    rw [add_plain, cell_of_row _ _ j _ e fr (heap_alloc_new W _)]
    simp [nums, List.getElem?_eq_getElem hj, List.getD_eq_getElem?_getD]
  exact Kd.C_of_reads (d := (0 : Int)) (h1 := fun _ => rfl) hr
/-- The box of a variadic call's two arguments. -/
theorem C_box2 {W : World} {A A' : Option Addr} {n c n' c' : Nat} {b b' : List Int} {e q : Nat} (h : (Kd.int .u8).C W A n b) (hn : b.length = n) (hc : n ≤ c) (h' : (Kd.int .u8).C W A' n' b') (hn' : b'.length = n') (hc' : n' ≤ c') :
    Kd.C (Kd.slice q (Kd.int .u8)) (W.alloc (.cells #[.slice A n c, .slice A' n' c'] e)) (some ⟨W.heap.size, 0, none⟩) 2 [b, b'] := by
  subst hn
  subst hn'
  refine ⟨rfl, by decide, fun _ => ⟨_, rfl, fun j p hj => ?_⟩⟩
  match j, hj with
  | 0, hj =>
    simp only [List.getElem?_cons_zero, Option.some.injEq] at hj
    subst hj
    refine ⟨[.slice A b.length c], rfl, ⟨A, c, rfl, hc, Kd.C_alloc h _⟩, fun i u hu => ?_⟩
    cases i with
    | succ i => simp at hu
    | zero =>
      simp only [List.getElem?_cons_zero, Option.some.injEq] at hu
      rw [← hu]
      show (W.alloc (.cells #[.slice A b.length c, .slice A' b'.length c'] e)).cell? ((⟨W.heap.size, 0, none⟩ : Addr).add (0 * 1 + 0)) = _
      rw [add_plain]
      simp
  | 1, hj =>
    simp only [List.getElem?_cons_succ, List.getElem?_cons_zero, Option.some.injEq] at hj
    subst hj
    refine ⟨[.slice A' b'.length c'], rfl, ⟨A', c', rfl, hc', Kd.C_alloc h' _⟩, fun i u hu => ?_⟩
    cases i with
    | succ i => simp at hu
    | zero =>
      simp only [List.getElem?_cons_zero, Option.some.injEq] at hu
      rw [← hu]
      show (W.alloc (.cells #[.slice A b.length c, .slice A' b'.length c'] e)).cell? ((⟨W.heap.size, 0, none⟩ : Addr).add (1 * 1 + 0)) = _
      rw [add_plain]
      simp
  | j + 2, hj => simp at hj
end Go.Proofs.Ytjblklejjemdhaa.Kbase
