/- SlipEnds, walked: whatever two texts come in, the law's function answers true. No condition but the row's own. Printed in part by wip/gen/slipends.py. -/
import Derived.Test.YtjblklejjemdhaaKslipC
namespace Go.Proofs.Ytjblklejjemdhaa.Kslip
set_option linter.unusedVariables false
set_option linter.unusedSimpArgs false
open Go.RowKit Go.Proofs.Ytjblklejjemdhaa.PSlipFrames Go.Proofs.YtjblklejjemdhaaW.PrintWords Go.Proofs.YtjblklejjemdhaaW.PrintLast Go.Proofs.YtjblklejjemdhaaW.PrintMore Kbase
set_option maxHeartbeats 1000000 in
set_option maxRecDepth 100000 in
theorem ends_big (A0 A1 : Option Addr) (c0 c1 : Nat) (a b : List Int) (w : World) (ha : a.length ≤ 140737488351232) (hb : b.length ≤ 140737488351232) (hbig : 1000 < a.length + b.length) :
    Calls Try.prog 4 #[.slice A0 a.length c0, .slice A1 b.length c1] w fun e w' => e = .returned (.bool true) ∧ Below w.heap.size w w' := by
  have HB := Aside0.mk (Below.refl w.heap.size w)
  have hb1 : decide ((a.length : Int) + (b.length : Int) > 1000) = true := decide_eq_true (by omega)
  clear hbig
  go_enter Try.func4, Try.ntmps4
  go_wp2_with (go_at_call 10; refine (lives_c _).mono ?_; rintro e w5 ⟨rfl, hb⟩; have n0_ := Aside0.mk (below_step (by repeat (first | (with_reducible first | exact HB.out | apply below_alloc | apply pw_below_drewN | apply below_drew1) | exact HB.out)) hb); clear HB; have HB := n0_; clear n0_ hb)
  go_ret
  exact ⟨rfl, HB.out⟩
set_option maxHeartbeats 4000000 in
set_option maxRecDepth 100000 in
theorem ends_small (A0 A1 : Option Addr) (c0 c1 : Nat) (a b : List Int) (w : World) (hr0 : (Kd.int .u8).C w A0 a.length a) (hc0 : a.length ≤ c0) (hr1 : (Kd.int .u8).C w A1 b.length b) (hc1 : b.length ≤ c1) (hba : Bytes a) (hbb : Bytes b) (hsm : a.length + b.length ≤ 1000) :
    Calls Try.prog 4 #[.slice A0 a.length c0, .slice A1 b.length c1] w fun e w' => e = .returned (.bool true) ∧ Below w.heap.size w w' := by
  have HR0 := Aside0.mk hr0
  have HC0 := Aside0.mk hc0
  have HR1 := Aside0.mk hr1
  have HC1 := Aside0.mk hc1
  have HBA := Aside0.mk hba
  have HBC := Aside0.mk hbb
  clear hr0 hc0 hr1 hc1 hba hbb
  have HB := Aside0.mk (Below.refl w.heap.size w)
  have hb1 : decide ((a.length : Int) + (b.length : Int) > 1000) = false := decide_eq_false (by omega)
  go_enter Try.func4, Try.ntmps4
  go_wp2_with (go_at_call 10; refine (lives_c _).mono ?_; rintro e w5 ⟨rfl, hb⟩; have n0_ := Aside0.mk (below_step (by repeat (first | (with_reducible first | exact HB.out | apply below_alloc | apply pw_below_drewN | apply below_drew1) | exact HB.out)) hb); clear HB; have HB := n0_; clear n0_ hb)
  clear hb1
  refine (enc1_c _ a _ (C_box (Kd.C_below HR0.out HB.out) rfl HC0.out) (by have := fr_len a; omega)).mono ?_
  rintro e w6 ⟨v6, rfl, ho, hb⟩
  have HF := Aside0.mk ho
  have n0_ := Aside0.mk (below_step (below_alloc HB.out _) hb)
  clear HB
  have HB := n0_
  clear n0_ ho hb
  go_wp2_with (fail)
  refine (enc1_c _ b _ (C_box (Kd.C_below HR1.out HB.out) rfl HC1.out) (by have := fr_len b; omega)).mono ?_
  rintro e w7 ⟨v7, rfl, ho, hb⟩
  have HG := Aside0.mk ho
  have n0_ := Aside0.mk (below_step (below_alloc HB.out _) hb)
  have n1_ := Aside0.mk (Kd.R_below (Kd.R_alloc HF.out _) hb)
  clear HB HF
  have HB := n0_
  have HF := n1_
  clear n0_ n1_ ho hb
  obtain ⟨A6, c6, e6⟩ := Kd.R_slice HF.out
  subst e6
  obtain ⟨A7, c7, e7⟩ := Kd.R_slice HG.out
  subst e7
  have HCF := Aside0.mk (Kd.R_reads' HF.out).2.2
  have HCG := Aside0.mk (Kd.R_reads' HG.out).2.2
  have hn1 : 1 ≤ (fr a).length := by have := fr_len a; omega
  have hn2 : (fr a).length ≤ 2001 := by have := fr_len a; omega
  have hn3 : a.length < (fr a).length := by have := fr_len a; omega
  go_wp2_with (fail)
  go_loop [28] (fun i => ∃ k : Nat, k ≤ (fr a).length ∧ i = .int .i64 k) (fun i => (fr a).length - (intOf i).toNat)
  case atStart => exact ⟨0, Nat.zero_le _, rfl⟩
  case round =>
    obtain ⟨k, hk, rfl⟩ := hrel
    by_cases hlt : k < (fr a).length
    · have hkb : decide ((k : Int) < ((fr a).length : Int)) = true := decide_eq_true (by omega)
      obtain ⟨ad, e1, hx1⟩ := C_at HCF.out k hlt hlt
      subst e1
      have HE := Aside0.mk (fr_ends a k hlt)
      generalize (fr a)[k] = x at *
      by_cases hx : x = 192
      · subst hx
        have hq : ((k : Int) == ((fr a).length : Int) - 1) = true := beq_iff_eq.2 (by have := HE.out.1 rfl; omega)
        go_wp2
        go_round
        case rel => exact ⟨k + 1, by omega, by go_num⟩
        case measure => simp [intOf]; omega
      · have hq : ((k : Int) == ((fr a).length : Int) - 1) = false := beq_eq_false_iff_ne.2 (fun h => hx (HE.out.2 (by omega)))
        have hxb : (x == 192) = false := beq_eq_false_iff_ne.2 hx
        clear hx
        go_wp2
        go_round
        case rel => exact ⟨k + 1, by omega, by go_num⟩
        case measure => simp [intOf]; omega
    · have hkb : decide ((k : Int) < ((fr a).length : Int)) = false := decide_eq_false (by omega)
      have hcf := Kd.C_string (P := Try.prog) (c := c6) Try.underlying24 Try.underlying5 Try.underlying9 HCF.out
      have hcg := Kd.C_string (P := Try.prog) (c := c7) Try.underlying24 Try.underlying5 Try.underlying9 HCG.out
      have hca := Kd.C_string (P := Try.prog) (c := c0) Try.underlying24 Try.underlying5 Try.underlying9 (Kd.C_below HR0.out HB.out)
      have hcb := Kd.C_string (P := Try.prog) (c := c1) Try.underlying24 Try.underlying5 Try.underlying9 (Kd.C_below HR1.out HB.out)
      go_wp2
      go_ret
      refine ⟨?_, HB.out⟩
      rw [str_beq (bytes_fr HBA.out) (bytes_fr HBC.out), str_beq HBA.out HBC.out]
      have hd : decide (fr a = fr b) = decide (a = b) := by
        by_cases h : a = b
        · rw [h]; simp
        · rw [decide_eq_false h, decide_eq_false (fun e => h (fr_inj e))]
      rw [hd]
      simp
theorem ends_any (A0 A1 : Option Addr) (c0 c1 : Nat) (a b : List Int) (w : World) (hr0 : (Kd.int .u8).C w A0 a.length a) (hc0 : a.length ≤ c0) (hr1 : (Kd.int .u8).C w A1 b.length b) (hc1 : b.length ≤ c1) (hba : Bytes a) (hbb : Bytes b) (ha : a.length * 1 ≤ 140737488351232) (hb : b.length * 1 ≤ 140737488351232) :
    Calls Try.prog 4 #[.slice A0 a.length c0, .slice A1 b.length c1] w fun e w' => e = .returned (.bool true) ∧ Below w.heap.size w w' := by
  by_cases h : 1000 < a.length + b.length
  · exact ends_big A0 A1 c0 c1 a b w (by omega) (by omega) h
  · exact ends_small A0 A1 c0 c1 a b w hr0 hc0 hr1 hc1 hba hbb (by omega)
end Go.Proofs.Ytjblklejjemdhaa.Kslip
