/- The pure side of the frames: what the printed functions of slip and its reference answer, as lists. No memory, no program. -/
import Derived.Test.YtjblklejjemdhaaPSlipFramesx1
import Derived.Test.YtjblklejjemdhaaKbase
namespace Go.Proofs.Ytjblklejjemdhaa.Kslip
open Go.RowKit Go.Proofs.Ytjblklejjemdhaa.PSlipFrames Go.Proofs.YtjblklejjemdhaaW.PrintWords

def esc (c : Int) : List Int := if c = 192 then [219, 220] else if c = 219 then [219, 221] else [c]
def escs (b : List Int) : List Int := b.flatMap esc
def fr (b : List Int) : List Int := escs b ++ [192]
def frs (l : List (List Int)) : List Int := l.flatMap fr
theorem esc_len (c : Int) : 1 ≤ (esc c).length ∧ (esc c).length ≤ 2 := by
  unfold esc
  split
  · simp
  · split <;> simp
theorem escs_cons (c : Int) (b : List Int) : escs (c :: b) = esc c ++ escs b := by simp [escs]
theorem escs_len : ∀ b : List Int, b.length ≤ (escs b).length ∧ (escs b).length ≤ 2 * b.length
  | [] => by simp [escs]
  | c :: b => by
    have h := escs_len b
    have g := esc_len c
    rw [escs_cons, List.length_append, List.length_cons]
    omega
theorem fr_len (b : List Int) : b.length + 1 ≤ (fr b).length ∧ (fr b).length ≤ 2 * b.length + 1 := by
  have h := escs_len b
  unfold fr
  rw [List.length_append, List.length_singleton]
  omega
theorem frs_cons (b : List Int) (l : List (List Int)) : frs (b :: l) = fr b ++ frs l := by simp [frs]
theorem rd_nat (xs : List Int) (i : Nat) (h : i < xs.length) : rd xs (i : Int) = xs[i] := by
  unfold rd
  rw [Int.toNat_natCast, List.getD_eq_getElem?_getD, List.getElem?_eq_getElem h, Option.getD_some]
theorem rdL_nat (xs : List (List Int)) (i : Nat) (h : i < xs.length) : rd_L1 xs (i : Int) = xs[i] := by
  unfold rd_L1
  rw [Int.toNat_natCast, List.getD_eq_getElem?_getD, List.getElem?_eq_getElem h, Option.getD_some]
theorem wrap_next (i : Nat) (h : i < 140737488355328) : wrap64 ((i : Int) + 1) = ((i + 1 : Nat) : Int) := by
  unfold wrap64
  omega
theorem l1_run (x8 : List (List Int)) (x9 x10 : Int) (x14 : List Int) (hx : x14.length < 140737488355328) : ∀ (d m : Nat) (x3 : List Int) (i : Nat), i + d = x14.length → x3.length + (escs (x14.drop i)).length + 1 < 140737488355328 →
    slip_Encode.l1 (m + d + 1) x3 x8 x9 x10 x14 (x14.length : Int) (i : Int) = slip_Encode.l0 m (x3 ++ escs (x14.drop i) ++ [192]) x8 x9 (wrap64 (x10 + 1))
  | 0, m, x3, i, hi, hb => by
    have e : x14.drop i = [] := List.drop_eq_nil_of_le (by omega)
    rw [e] at hb ⊢
    simp only [slip_Encode.l1]
    rw [if_neg (by omega), if_pos (by simp [escs] at hb; omega)]
    simp [escs]
  | d + 1, m, x3, i, hi, hb => by
    have hlt : i < x14.length := by omega
    have e : x14.drop i = x14[i] :: x14.drop (i + 1) := List.drop_eq_getElem_cons hlt
    rw [e, escs_cons] at hb ⊢
    rw [List.length_append] at hb
    have ih := l1_run x8 x9 x10 x14 hx d m
    obtain ⟨k, hk⟩ : ∃ k, k = m + d + 1 := ⟨_, rfl⟩
    rw [show m + (d + 1) + 1 = k + 1 from by omega]
    simp only [← hk] at ih
    simp only [slip_Encode.l1, Option.bind_some]
    rw [if_pos (by omega), if_pos (by omega), if_pos (by omega), rd_nat x14 i hlt, wrap_next i (by omega)]
    generalize hc : x14[i] = c at *
    have g := esc_len c
    by_cases h1 : c = 192
    · have hes : esc c = [219, 220] := by unfold esc; rw [if_pos h1]
      rw [hes] at hb ⊢
      simp only [List.length_cons, List.length_nil] at hb
      rw [if_pos h1, if_pos (by simp only [List.length_cons, List.length_nil]; omega)]
      rw [ih (x3 ++ [219, 220]) (i + 1) (by omega) (by simp only [List.length_append, List.length_cons, List.length_nil]; omega)]
      simp
    · rw [if_neg h1]
      by_cases h2 : c = 219
      · have hes : esc c = [219, 221] := by unfold esc; rw [if_neg h1, if_pos h2]
        rw [hes] at hb ⊢
        simp only [List.length_cons, List.length_nil] at hb
        rw [if_pos h2, if_pos (by simp only [List.length_cons, List.length_nil]; omega)]
        rw [ih (x3 ++ [219, 221]) (i + 1) (by omega) (by simp only [List.length_append, List.length_cons, List.length_nil]; omega)]
        simp
      · have hes : esc c = [c] := by unfold esc; rw [if_neg h1, if_neg h2]
        rw [hes] at hb ⊢
        simp only [List.length_cons, List.length_nil] at hb
        rw [if_neg h2, if_pos (by omega)]
        rw [ih (x3 ++ [c]) (i + 1) (by omega) (by simp only [List.length_append, List.length_cons, List.length_nil]; omega)]
        simp
def cost : List (List Int) → Nat
  | [] => 0
  | b :: l => b.length + 2 + cost l
theorem cost_le : ∀ l : List (List Int), cost l ≤ 2 * (frs l).length
  | [] => by simp [cost, frs]
  | b :: l => by
    have h := cost_le l
    have g := fr_len b
    rw [frs_cons, List.length_append]
    simp only [cost]
    omega
theorem len_le : ∀ l : List (List Int), l.length ≤ (frs l).length
  | [] => by simp
  | b :: l => by
    have h := len_le l
    have g := fr_len b
    rw [frs_cons, List.length_append, List.length_cons]
    omega
theorem l0_run (l : List (List Int)) (hl : l.length < 140737488355328) : ∀ (d m : Nat) (x3 : List Int) (j : Nat), j + d = l.length → x3.length + (frs (l.drop j)).length < 140737488355328 →
    slip_Encode.l0 (m + cost (l.drop j) + 1) x3 l (l.length : Int) (j : Int) = some (x3 ++ frs (l.drop j))
  | 0, m, x3, j, hj, hb => by
    have e : l.drop j = [] := List.drop_eq_nil_of_le (by omega)
    rw [e]
    simp only [slip_Encode.l0]
    rw [if_neg (by omega)]
    simp [frs]
  | d + 1, m, x3, j, hj, hb => by
    have hlt : j < l.length := by omega
    have e : l.drop j = l[j] :: l.drop (j + 1) := List.drop_eq_getElem_cons hlt
    rw [e, frs_cons] at hb ⊢
    rw [List.length_append] at hb
    have ih := l0_run l hl d m
    obtain ⟨k, hk⟩ : ∃ k, k = m + cost (l.drop (j + 1)) + 1 + l[j].length + 1 := ⟨_, rfl⟩
    simp only [cost]
    rw [show m + (l[j].length + 2 + cost (l.drop (j + 1))) + 1 = k + 1 from by omega]
    simp only [slip_Encode.l0]
    rw [if_pos (by omega), if_pos (by omega), if_pos (by omega), rdL_nat l j hlt]
    generalize hc : l[j] = b at *
    have g := fr_len b
    have g2 := escs_len b
    have he : fr b = escs b ++ [192] := rfl
    have hle : (fr b).length = (escs b).length + 1 := by rw [he, List.length_append, List.length_singleton]
    have hr := l1_run l (l.length : Int) (j : Int) b (by omega) b.length (m + cost (l.drop (j + 1)) + 1) x3 0 (by omega) (by rw [List.drop_zero]; omega)
    rw [hk]
    rw [List.drop_zero] at hr
    rw [show ((0 : Nat) : Int) = 0 from rfl] at hr
    rw [hr, wrap_next j (by omega), ih (x3 ++ escs b ++ [192]) (j + 1) (by omega) (by rw [List.append_assoc, List.length_append, ← he]; omega)]
    rw [he]
    simp [List.append_assoc]
theorem enc_at (l : List (List Int)) (h : (frs l).length < 140737488355328) (m : Nat) : slip_Encode.f (m + cost l + 1) l = some (frs l) := by
  have g := len_le l
  have hr := l0_run l (by omega) l.length m [] 0 (by omega) (by rw [List.drop_zero]; simpa using h)
  rw [List.drop_zero] at hr
  exact hr
theorem enc_some (l : List (List Int)) (h : (frs l).length < 140737488355328) : ∃ k, slip_Encode.f k l = some (frs l) := ⟨_, enc_at l h 0⟩
/-- The frame's length. -/
def flen (b : List Int) : Nat := (fr b).length
theorem escs_len_cons (c : Int) (b : List Int) : (escs (c :: b)).length = (escs b).length + (if c = 192 then 2 else if c = 219 then 2 else 1) := by
  rw [escs_cons, List.length_append]
  unfold esc
  split
  · simp; omega
  · split <;> simp <;> omega
theorem len_run (x9 : List Int) (hx : x9.length < 140737488355328) : ∀ (d m : Nat) (n : Nat) (i : Nat), i + d = x9.length → n + (escs (x9.drop i)).length < 9223372036854775807 →
    slip_Len.l0 (m + d + 1) (n : Int) x9 (x9.length : Int) (i : Int) = some (((n + (escs (x9.drop i)).length - (x9.length - i) : Nat) : Int))
  | 0, m, n, i, hi, hb => by
    have e : x9.drop i = [] := List.drop_eq_nil_of_le (by omega)
    rw [e]
    simp only [slip_Len.l0]
    rw [if_neg (by omega)]
    simp [escs]
    omega
  | d + 1, m, n, i, hi, hb => by
    have hlt : i < x9.length := by omega
    have e : x9.drop i = x9[i] :: x9.drop (i + 1) := List.drop_eq_getElem_cons hlt
    rw [e, escs_len_cons] at hb ⊢
    have ih := len_run x9 hx d m
    obtain ⟨k, hk⟩ : ∃ k, k = m + d + 1 := ⟨_, rfl⟩
    rw [show m + (d + 1) + 1 = k + 1 from by omega]
    simp only [← hk] at ih
    have g := escs_len (x9.drop (i + 1))
    have gl : (x9.drop (i + 1)).length = d := by rw [List.length_drop]; omega
    simp only [slip_Len.l0]
    rw [if_pos (by omega), if_pos (by omega), if_pos (by omega), rd_nat x9 i hlt, wrap_next i (by omega)]
    by_cases h1 : x9[i] = 192
    · rw [if_pos h1, if_pos h1] at *
      rw [show wrap64 ((n : Int) + 1) = ((n + 1 : Nat) : Int) from by unfold wrap64; omega, ih (n + 1) (i + 1) (by omega) (by omega)]
      congr 2
      omega
    · by_cases h2 : x9[i] = 219
      · rw [if_neg h1, if_neg h1, if_pos h2, if_pos h2] at *
        rw [show wrap64 ((n : Int) + 1) = ((n + 1 : Nat) : Int) from by unfold wrap64; omega, ih (n + 1) (i + 1) (by omega) (by omega)]
        congr 2
        omega
      · rw [if_neg h1, if_neg h1, if_neg h2, if_neg h2] at *
        rw [ih n (i + 1) (by omega) (by omega)]
        congr 2
        omega
theorem len_at (b : List Int) (h : b.length < 140737488355328) (m : Nat) : slip_Len.f (m + b.length + 1) b = some ((fr b).length : Int) := by
  have g := escs_len b
  have hr := len_run b h b.length m (b.length + 1) 0 (by omega) (by rw [List.drop_zero]; omega)
  rw [List.drop_zero] at hr
  unfold slip_Len.f
  rw [wrap_next _ (by omega)]
  refine hr.trans ?_
  congr 2
  unfold fr
  rw [List.length_append, List.length_singleton]
  omega
theorem len_some (b : List Int) (h : b.length < 140737488355328) : ∃ k, slip_Len.f k b = some ((fr b).length : Int) := ⟨_, len_at b h 0⟩
theorem ref_run (x0 : List Int) (hx : x0.length < 140737488355328) : ∀ (d m : Nat) (x3 : List Int) (i : Nat), i + d = x0.length → x3.length + (escs (x0.drop i)).length + 1 < 140737488355328 →
    bosunref09_Encode.l0 (m + d + 1) x0 x3 (i : Int) = some (x3 ++ escs (x0.drop i) ++ [192])
  | 0, m, x3, i, hi, hb => by
    have e : x0.drop i = [] := List.drop_eq_nil_of_le (by omega)
    rw [e] at hb ⊢
    simp only [bosunref09_Encode.l0]
    rw [if_neg (by omega), if_pos (by simp [escs] at hb; omega)]
    simp [escs]
  | d + 1, m, x3, i, hi, hb => by
    have hlt : i < x0.length := by omega
    have e : x0.drop i = x0[i] :: x0.drop (i + 1) := List.drop_eq_getElem_cons hlt
    rw [e, escs_cons] at hb ⊢
    rw [List.length_append] at hb
    have ih := ref_run x0 hx d m
    obtain ⟨k, hk⟩ : ∃ k, k = m + d + 1 := ⟨_, rfl⟩
    rw [show m + (d + 1) + 1 = k + 1 from by omega]
    simp only [← hk] at ih
    simp only [bosunref09_Encode.l0, Option.bind_some]
    rw [if_pos (by omega), if_pos (by omega), rd_nat x0 i hlt, wrap_next i (by omega)]
    generalize hc : x0[i] = c at *
    have g := esc_len c
    by_cases h1 : c = 192
    · have hes : esc c = [219, 220] := by unfold esc; rw [if_pos h1]
      rw [hes] at hb ⊢
      simp only [List.length_cons, List.length_nil] at hb
      rw [if_pos h1, if_pos (by omega), if_pos (by simp only [List.length_append, List.length_cons, List.length_nil]; omega)]
      rw [ih (x3 ++ [219] ++ [220]) (i + 1) (by omega) (by simp only [List.length_append, List.length_cons, List.length_nil]; omega)]
      simp
    · rw [if_neg h1]
      by_cases h2 : c = 219
      · have hes : esc c = [219, 221] := by unfold esc; rw [if_neg h1, if_pos h2]
        rw [hes] at hb ⊢
        simp only [List.length_cons, List.length_nil] at hb
        rw [if_pos h2, if_pos (by omega), if_pos (by simp only [List.length_append, List.length_cons, List.length_nil]; omega)]
        rw [ih (x3 ++ [219] ++ [221]) (i + 1) (by omega) (by simp only [List.length_append, List.length_cons, List.length_nil]; omega)]
        simp
      · have hes : esc c = [c] := by unfold esc; rw [if_neg h1, if_neg h2]
        rw [hes] at hb ⊢
        simp only [List.length_cons, List.length_nil] at hb
        rw [if_neg h2, if_pos (by omega)]
        rw [ih (x3 ++ [c]) (i + 1) (by omega) (by simp only [List.length_append, List.length_cons, List.length_nil]; omega)]
        simp
theorem ref_some (b : List Int) (h : 2 * b.length + 1 < 140737488355328) : ∃ k, bosunref09_Encode.f k b = some (fr b) := by
  have g := escs_len b
  have hr := ref_run b (by omega) b.length 0 [] 0 (by omega) (by rw [List.drop_zero]; simp only [List.length_nil]; omega)
  rw [List.drop_zero] at hr
  exact ⟨_, hr⟩
theorem lives_some : ∃ k, bosunlaw09_lives.f k = some true := by
  refine ⟨20, ?_⟩
  have h1 := enc_at [[1, 192]] (by decide) 15
  have h2 := len_at [1, 192] (by decide) 17
  have e1 : 15 + cost [[1, 192]] + 1 = 20 := by decide
  have e2 : 17 + ([1, 192] : List Int).length + 1 = 20 := by decide
  rw [e1] at h1
  rw [e2] at h2
  unfold bosunlaw09_lives.f
  rw [h1, h2]
  simp only [Option.bind_some]
  rw [if_pos (by rw [Kbase.str_list]; decide), if_pos (by decide)]

/-! ### the contracts, with these words -/
theorem lives_c (w : World) : Calls Try.prog 10 #[] w fun e w' => e = .returned (.bool true) ∧ Below w.heap.size w w' := by
  obtain ⟨k, h⟩ := lives_some
  exact bosunlaw09_lives.calls k true w h
theorem enc_c (A0 : Option Addr) (n c0 : Nat) (l0 : List (List Int)) (w : World) (hn : n = l0.length) (hr0 : Kd.C (Kd.slice 5 (Kd.int .u8)) w A0 n l0) (hc0 : n ≤ c0) (h : (frs l0).length < 140737488355328) :
    Calls Try.prog 12 #[.slice A0 n c0] w fun e w' => ∃ v0_ : Value, e = .returned (v0_) ∧ Kd.R (Kd.int .u8) 5 w' w.heap.size (fun _ => True) v0_ (frs l0) ∧ Below w.heap.size w w' := by
  subst hn
  obtain ⟨k, h⟩ := enc_some l0 h
  exact slip_Encode.calls k A0 c0 l0 _ w hr0 hc0 h
theorem len_c (A0 : Option Addr) (n c0 : Nat) (l0 : List Int) (w : World) (hn : n = l0.length) (hr0 : Kd.C (Kd.int .u8) w A0 n l0) (hc0 : n ≤ c0) (h : n < 140737488355328) :
    Calls Try.prog 13 #[.slice A0 n c0] w fun e w' => e = .returned (.int .i64 ((fr l0).length : Int)) ∧ Drawn0 w w' := by
  subst hn
  obtain ⟨k, h⟩ := len_some l0 h
  exact slip_Len.calls k A0 c0 l0 _ w hr0 hc0 h
theorem ref_c (A0 : Option Addr) (n c0 : Nat) (l0 : List Int) (w : World) (hn : n = l0.length) (hr0 : Kd.C (Kd.int .u8) w A0 n l0) (hc0 : n ≤ c0) (h : 2 * n + 1 < 140737488355328) :
    Calls Try.prog 11 #[.slice A0 n c0] w fun e w' => ∃ v0_ : Value, e = .returned (v0_) ∧ Kd.R (Kd.int .u8) 5 w' w.heap.size (fun _ => True) v0_ (fr l0) ∧ Below w.heap.size w w' := by
  subst hn
  obtain ⟨k, h⟩ := ref_some l0 h
  exact bosunref09_Encode.calls k A0 c0 l0 _ w hr0 hc0 h
end Go.Proofs.Ytjblklejjemdhaa.Kslip
