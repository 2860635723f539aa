/- The reference's record of a record, Same of two records that are one, and the example: walked. -/
import Derived.Test.YtjblklejjemdhaaKrecE
namespace Go.Proofs.Ytjblklejjemdhaa.Krec
set_option linter.unusedVariables false
set_option linter.unusedSimpArgs false
open Go.RowKit Go.Proofs.YtjblklejjemdhaaW.PrintWords Go.Proofs.YtjblklejjemdhaaW.PrintLast Go.Proofs.YtjblklejjemdhaaW.PrintMore Kbase Kcrc
/-- A piece of a row that is read. -/
theorem C_sub {W : World} {g n : Nat} {k : IntKind} {xs : List Int} (h : (Kd.int k).C W (some ⟨g, 0, none⟩) n xs) (i m : Nat) (hm : i + m ≤ n) : (Kd.int k).C W (some ⟨g, i, none⟩) m ((xs.drop i).take m) := by
  have hl : xs.length = n := h.1
  have h2 : n ≤ 9223372036854775807 := h.2.1
  have hr : ReadsInt W k (some ⟨g, i, none⟩) m ((xs.drop i).take m) := by
    refine ⟨by rw [List.length_take, List.length_drop]; omega, by omega, fun _ => ⟨_, rfl, fun j hj => ?_⟩⟩
    obtain ⟨ad, e, hc⟩ := C_at h (i + j) (by omega) (by omega)
    cases e
    have ha : (⟨g, i, none⟩ : Addr).add j = ⟨g, i + j, none⟩ := by unfold Addr.add; split <;> simp_all
    rw [add_plain] at hc
    rw [ha, hc, List.getD_eq_getElem?_getD, List.getElem?_take, if_pos hj, List.getElem?_drop, List.getElem?_eq_getElem (by omega), Option.getD_some]
  exact Kd.C_of_reads (d := (0 : Int)) (h1 := fun _ => rfl) hr
set_option maxHeartbeats 1000000 in
set_option maxRecDepth 100000 in
theorem of_c (s f b m p d : Nat) (A : Option Addr) (n c : Nat) (w : World) :
    Calls Try.prog 21 #[.agg #[.int .u32 (s : Int), .int .u32 (f : Int), .int .u32 (b : Int), .int .u32 (m : Int), .int .u8 (p : Int), .int .u32 (d : Int), .slice A n c]] w fun e w' => e = .returned (.agg #[.int .u32 (s : Int), .int .u32 (f : Int), .int .u32 (b : Int), .int .u32 (m : Int), .int .u32 (d : Int), .int .u8 (p : Int), .slice A n c]) ∧ Below w.heap.size w w' := by
  go_enter Try.func21, Try.ntmps21
  go_wp2
  refine bodyPost_ret (v := .agg #[.int .u32 (s : Int), .int .u32 (f : Int), .int .u32 (b : Int), .int .u32 (m : Int), .int .u32 (d : Int), .int .u8 (p : Int), .slice A n c]) (by simp [results, Try.results21, go_sem]) rfl ⟨rfl, ?_⟩
  exact below_alloc (below_alloc (Below.refl _ _) _) _
set_option maxHeartbeats 1000000 in
set_option maxRecDepth 100000 in
theorem same_c (s f b m p d : Nat) (A A' : Option Addr) (n n' c c' : Nat) (xs : List Int) (w : World) (hr : (Kd.int .u8).C w A n xs) (hr' : (Kd.int .u8).C w A' n' xs) :
    Calls Try.prog 24 #[.agg #[.int .u32 (s : Int), .int .u32 (f : Int), .int .u32 (b : Int), .int .u32 (m : Int), .int .u8 (p : Int), .int .u32 (d : Int), .slice A n c], .agg #[.int .u32 (s : Int), .int .u32 (f : Int), .int .u32 (b : Int), .int .u32 (m : Int), .int .u8 (p : Int), .int .u32 (d : Int), .slice A' n' c']] w fun e w' => e = .returned (.bool true) ∧ Below w.heap.size w w' := by
  have HR := Aside0.mk hr
  have HR' := Aside0.mk hr'
  clear hr hr'
  have hs1 := Kd.C_string (P := Try.prog) (c := c) Try.underlying24 Try.underlying5 Try.underlying9 (Kd.C_alloc (Kd.C_alloc HR.out (.cells #[.int .u32 (s : Int), .int .u32 (f : Int), .int .u32 (b : Int), .int .u32 (m : Int), .int .u8 (p : Int), .int .u32 (d : Int), .slice A n c] 37)) (.cells #[.int .u32 (s : Int), .int .u32 (f : Int), .int .u32 (b : Int), .int .u32 (m : Int), .int .u8 (p : Int), .int .u32 (d : Int), .slice A' n' c'] 37))
  have hs2 := Kd.C_string (P := Try.prog) (c := c') Try.underlying24 Try.underlying5 Try.underlying9 (Kd.C_alloc (Kd.C_alloc HR'.out (.cells #[.int .u32 (s : Int), .int .u32 (f : Int), .int .u32 (b : Int), .int .u32 (m : Int), .int .u8 (p : Int), .int .u32 (d : Int), .slice A n c] 37)) (.cells #[.int .u32 (s : Int), .int .u32 (f : Int), .int .u32 (b : Int), .int .u32 (m : Int), .int .u8 (p : Int), .int .u32 (d : Int), .slice A' n' c'] 37))
  go_enter Try.func24, Try.ntmps24
  go_wp2
  go_ret
  exact ⟨by simp, below_alloc (below_alloc (Below.refl _ _) _) _⟩
set_option maxHeartbeats 1000000 in
set_option maxRecDepth 100000 in
theorem lives_c (w : World) : Calls Try.prog 18 #[] w fun e w' => e = .returned (.bool true) ∧ Below w.heap.size w w' := by
  go_enter Try.func18, Try.ntmps18
  go_wp2_with (fail)
  refine (encode_ok 0 0 0 0 0 0 none 0 0 [] _ (by decide) (by decide) (by decide) (by decide) (by decide) (by decide) rfl ⟨rfl, by decide, fun h => absurd h (by decide)⟩ (by decide) (by intro n hn; cases hn) (by decide)).mono ?_
  rintro e w1 ⟨v, rfl, ho, hb⟩
  have HO := Aside0.mk ho
  have HB := Aside0.mk hb
  clear ho hb
  obtain ⟨g, c1, e1, _, _⟩ := (Kd.own_of_R HO.out).form (by rw [enc_len _ _ _ _ _ _ _ (by decide)]; decide)
  rw [enc_len 0 0 0 0 0 0 [] (by decide)] at e1
  subst e1
  obtain ⟨hn, hc1, hC⟩ := Kd.R_reads' HO.out
  rw [← hn] at hC
  have hs8 := Kd.C_string (P := Try.prog) (c := c1) Try.underlying24 Try.underlying5 Try.underlying9 (C_sub hC 0 8 (by decide))
  have HE := Aside0.mk (show (strOfNums (((enc 0 0 0 0 0 0 []).drop 0).take 8)).toList = [66, 83, 78, 49, 0, 0, 0, 0] by
    rw [str_list, show ((enc 0 0 0 0 0 0 []).drop 0).take 8 = [66, 83, 78, 49, 0, 0, 0, 0] from by decide +kernel]
    decide)
  generalize ((enc 0 0 0 0 0 0 []).drop 0).take 8 = E8 at *
  clear hn hC
  go_wp2
  go_ret
  refine ⟨?_, HB.out⟩
  simp [HE.out]
end Go.Proofs.Ytjblklejjemdhaa.Krec
