/- Frames, the plain law: the byte that ends a frame stands at its end and nowhere else; two texts of one frame are one. -/
import Derived.Test.YtjblklejjemdhaaKslipA
namespace Go.Proofs.Ytjblklejjemdhaa.Kslip
open Go.RowKit Go.Proofs.YtjblklejjemdhaaW.PrintWords Kbase
theorem esc_ne (c : Int) : ∀ x ∈ esc c, x ≠ 192 := by
  unfold esc
  split
  · decide
  · split
    · decide
    · intro x hx
      rw [List.mem_singleton.1 hx]
      assumption
theorem escs_ne (b : List Int) : ∀ x ∈ escs b, x ≠ 192 := by
  intro x hx
  obtain ⟨c, _, h⟩ := List.mem_flatMap.1 hx
  exact esc_ne c x h
theorem fr_ends (b : List Int) (i : Nat) (h : i < (fr b).length) : (fr b)[i] = 192 ↔ i + 1 = (fr b).length := by
  have hl : (fr b).length = (escs b).length + 1 := by unfold fr; rw [List.length_append, List.length_singleton]
  have he : (fr b)[i] = (escs b ++ [192])[i]'(by simpa [fr] using h) := rfl
  rw [he]
  by_cases hi : i < (escs b).length
  · rw [List.getElem_append_left hi]
    exact ⟨fun e => absurd e (escs_ne b _ (List.getElem_mem hi)), fun e => by omega⟩
  · rw [List.getElem_append_right (by omega)]
    simp
    omega
theorem esc_split (c d : Int) (s t : List Int) (h : esc c ++ s = esc d ++ t) : c = d ∧ s = t := by
  unfold esc at h
  by_cases c1 : c = 192 <;> by_cases d1 : d = 192 <;> by_cases c2 : c = 219 <;> by_cases d2 : d = 219 <;> simp [c1, d1, c2, d2] at h <;> first | omega | (refine ⟨by omega, ?_⟩; simp [h]; done) | skip
  all_goals first | exact ⟨by omega, h⟩ | exact ⟨h.1, h.2⟩ | (exfalso; omega) | (exfalso; have := h.1; omega)
theorem fr_cons (c : Int) (b : List Int) : fr (c :: b) = esc c ++ fr b := by
  unfold fr
  rw [escs_cons, List.append_assoc]
theorem esc_head (c : Int) (s : List Int) (h : esc c ++ s = [192]) : False := by
  have hm : (192 : Int) ∈ esc c := by
    have hl := esc_len c
    cases he : esc c with
    | nil => rw [he] at hl; simp at hl
    | cons a r =>
      rw [he] at h
      injection h with h1 h2
      rw [h1]
      exact List.mem_cons_self
  exact esc_ne c 192 hm rfl
theorem fr_inj : ∀ {a b : List Int}, fr a = fr b → a = b
  | [], [], _ => rfl
  | [], c :: b, h => by rw [fr_cons] at h; exact (esc_head c (fr b) h.symm).elim
  | c :: a, [], h => by rw [fr_cons] at h; exact (esc_head c (fr a) h).elim
  | c :: a, d :: b, h => by
    rw [fr_cons, fr_cons] at h
    obtain ⟨h1, h2⟩ := esc_split c d _ _ h
    rw [h1, fr_inj h2]
theorem bytes_esc {c : Int} (h : 0 ≤ c ∧ c ≤ 255) : Bytes (esc c) := by
  unfold esc
  split
  · intro n hn; simp at hn; omega
  · split
    · intro n hn; simp at hn; omega
    · intro n hn; rw [List.mem_singleton.1 hn]; exact h
theorem bytes_fr {b : List Int} (h : Bytes b) : Bytes (fr b) := by
  refine bytes_append (fun n hn => ?_) (by intro n hn; rw [List.mem_singleton.1 hn]; decide)
  obtain ⟨c, hc, hm⟩ := List.mem_flatMap.1 hn
  exact bytes_esc (h c hc) n hm
theorem bytes_frs {l : List (List Int)} (h : ∀ b ∈ l, Bytes b) : Bytes (frs l) := fun n hn => by
  obtain ⟨b, hb, hm⟩ := List.mem_flatMap.1 hn
  exact bytes_fr (h b hb) n hm
theorem frs_one (b : List Int) : frs [b] = fr b := by simp [frs]
theorem frs_snoc (l : List (List Int)) (b : List Int) : frs (l ++ [b]) = frs l ++ fr b := by simp [frs]
theorem frs_le : ∀ (l : List (List Int)), (∀ b ∈ l, b.length ≤ 300) → (frs l).length ≤ 601 * l.length
  | [], _ => by simp [frs]
  | b :: l, h => by
    have h1 := frs_le l (fun x hx => h x (List.mem_cons_of_mem _ hx))
    have h2 := fr_len b
    have h3 := h b List.mem_cons_self
    rw [frs_cons, List.length_append, List.length_cons]
    omega
end Go.Proofs.Ytjblklejjemdhaa.Kslip
