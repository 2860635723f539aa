/- CrcSums, walked: whatever sum and bytes come in, the law's function answers true. Printed in part by wip/gen/crc.py. -/
import Derived.Test.YtjblklejjemdhaaKcrcC
namespace Go.Proofs.Ytjblklejjemdhaa.Kcrc
set_option linter.unusedVariables false
set_option linter.unusedSimpArgs false
open Go.RowKit Go.Proofs.Ytjblklejjemdhaa.PCrcSums Go.Proofs.YtjblklejjemdhaaW.PrintWords Go.Proofs.YtjblklejjemdhaaW.PrintLast Go.Proofs.YtjblklejjemdhaaW.PrintMore Kbase

theorem info5 : (Try.prog.info? 5).map (fun i => (i.zero, i.size, i.bytes)) = some (some (.int .u8 0), 1, 1) := by kernel_rfl
set_option maxHeartbeats 1000000 in
set_option maxRecDepth 100000 in
theorem sums_big (A : Option Addr) (c : Nat) (s : Int) (xs : List Int) (w : World) (hbig : 3000 < xs.length) :
    Calls Try.prog 5 #[.int .u32 s, .slice A xs.length c] w fun e w' => e = .returned (.bool true) ∧ Below w.heap.size w w' := by
  have HB := Aside0.mk (Below.refl w.heap.size w)
  have hb1 : decide ((xs.length : Int) > 3000) = true := decide_eq_true (by omega)
  clear hbig
  go_enter Try.func5, Try.ntmps5
  go_wp2_with (go_at_call 14; refine (lives_c _).mono ?_; rintro e w5 ⟨rfl, hb⟩; have n0_ := Aside0.mk (below_step (by repeat (first | (with_reducible first | exact HB.out | apply below_alloc | apply pw_below_drewN | apply below_drew1) | exact HB.out)) hb); clear HB; have HB := n0_; clear n0_ hb)
  go_ret
  exact ⟨rfl, HB.out⟩
set_option maxHeartbeats 4000000 in
set_option maxRecDepth 100000 in
theorem sums_small (A : Option Addr) (c : Nat) (s : Nat) (xs : List Int) (w : World) (hs : s < 4294967296) (hr : (Kd.int .u8).C w A xs.length xs) (hc : xs.length ≤ c) (hby : Bytes xs) (hsm : xs.length ≤ 3000) :
    Calls Try.prog 5 #[.int .u32 (s : Int), .slice A xs.length c] w fun e w' => e = .returned (.bool true) ∧ Below w.heap.size w w' := by
  have HR := Aside0.mk hr
  have HC := Aside0.mk hc
  have HBY := Aside0.mk hby
  clear hr hc hby
  have HB := Aside0.mk (Below.refl w.heap.size w)
  have hb1 : decide ((xs.length : Int) > 3000) = false := decide_eq_false (by omega)
  go_enter Try.func5, Try.ntmps5
  go_wp2_with (first | (go_at_call 14; refine (lives_c _).mono ?_; rintro e w5 ⟨rfl, hb⟩; have n0_ := Aside0.mk (below_step (by repeat (first | (with_reducible first | exact HB.out | apply below_alloc | apply pw_below_drewN | apply below_drew1) | exact HB.out)) hb); clear HB; have HB := n0_; clear n0_ hb) | (at_builtin; refine Kd.R_append_rows (Kd.int .u8) (w0 := w5) w5.heap.size rfl (.tmp 14) (.tmp 15) 24 5 (.int .u8 0) 1 rfl Try.underlying24 info5 rfl (by decide) (by decide) (.slice (some ⟨w5.heap.size, 0, none⟩) 0 0) [] xs A xs.length c (fun _ => True) (fun _ => False) rfl rfl ?aO ?aR (fun _ _ h => h) (fun _ h => h.elim) (fun _ _ => trivial) ?aB ?aS ?aL ?_; (case aO => exact R_empty _ _ _ (Nat.le_refl _)); (case aR => exact Kd.C_alloc (Kd.C_below HR.out HB.out) _); (case aB => exact below_alloc (Below.refl _ _) _); (case aS => simp); (case aL => simp; omega); intro v6 w6 ho hb hg hat; have HBW := Aside0.mk HB.out; rw [List.nil_append] at ho; have HO := Aside0.mk ho; have n0_ := Aside0.mk (below_step HB.out hb); have HL := Aside0.mk hb; clear HB; have HB := n0_; clear n0_ ho hb hg hat; obtain ⟨A6, c6, e6⟩ := Kd.R_slice HO.out; subst e6))
  clear hb1
  refine (update_c A6 xs.length c6 s xs _ hs rfl (Kd.R_reads' HO.out).2.2 HBY.out).mono ?_
  rintro e w7 ⟨rfl, hb⟩
  have n0_ := Aside0.mk (below_step HB.out hb)
  have n1_ := Aside0.mk (Kd.R_below HO.out hb)
  clear HB HO
  have HB := n0_
  have HO := n1_
  clear n0_ n1_ hb
  go_wp2_with (fail)
  refine (ref_update_c A xs.length c s xs _ hs rfl (Kd.C_below HR.out HB.out) HBY.out).mono ?_
  rintro e w8 ⟨rfl, hb⟩
  have n0_ := Aside0.mk (below_step HB.out hb)
  have n1_ := Aside0.mk (Kd.R_below HO.out hb)
  clear HB HO
  have HB := n0_
  have HO := n1_
  clear n0_ n1_ hb
  go_wp2_with (fail)
  refine (sum_c _ 1 1 [xs] _ rfl (C_box (Kd.C_below HR.out HB.out) rfl HC.out) (by intro b hb; rw [List.mem_singleton.1 hb]; exact HBY.out)).mono ?_
  rintro e w9 ⟨rfl, hb⟩
  rw [show [xs].flatten = xs by simp]
  have n0_ := Aside0.mk (below_step (below_alloc HB.out _) hb)
  have n1_ := Aside0.mk (Kd.R_below (Kd.R_alloc HO.out _) hb)
  clear HB HO
  have HB := n0_
  have HO := n1_
  clear n0_ n1_ hb
  go_wp2_with (fail)
  refine (ref_update_c A xs.length c 0 xs _ (by decide) rfl (Kd.C_below HR.out HB.out) HBY.out).mono ?_
  rintro e w10 ⟨rfl, hb⟩
  have n0_ := Aside0.mk (below_step HB.out hb)
  have n1_ := Aside0.mk (Kd.R_below HO.out hb)
  clear HB HO
  have HB := n0_
  have HO := n1_
  clear n0_ n1_ hb
  go_wp2_with (fail)
  refine (update_c none 0 0 s [] _ hs rfl ⟨rfl, by decide, fun h => absurd h (by decide)⟩ (by intro n hn; cases hn)).mono ?_
  rintro e w11 ⟨rfl, hb⟩
  rw [update_nil s (by omega)]
  have n0_ := Aside0.mk (below_step HB.out hb)
  have n1_ := Aside0.mk (Kd.R_below HO.out hb)
  clear HB HO
  have HB := n0_
  have HO := n1_
  clear n0_ n1_ hb
  have hco := Kd.C_string (P := Try.prog) (c := c6) Try.underlying24 Try.underlying5 Try.underlying9 (Kd.R_reads' HO.out).2.2
  have hca := Kd.C_string (P := Try.prog) (c := c) Try.underlying24 Try.underlying5 Try.underlying9 (Kd.C_below HR.out HB.out)
  go_wp2
  go_ret
  exact ⟨by simp, HB.out⟩
theorem sums_any (A : Option Addr) (c : Nat) (s : Int) (xs : List Int) (w : World) (hs : (Lit.int .u32 s).wf = true) (hr : (Kd.int .u8).C w A xs.length xs) (hc : xs.length ≤ c) (hby : Bytes xs) :
    Calls Try.prog 5 #[.int .u32 s, .slice A xs.length c] w fun e w' => e = .returned (.bool true) ∧ Below w.heap.size w w' := by
  by_cases h : 3000 < xs.length
  · exact sums_big A c s xs w h
  · simp [Lit.wf, IntKind.min, IntKind.max, IntKind.signed, IntKind.bits] at hs
    obtain ⟨n, rfl⟩ := Int.eq_ofNat_of_zero_le hs.1
    exact sums_small A c n xs w (by omega) hr hc hby (by omega)
end Go.Proofs.Ytjblklejjemdhaa.Kcrc
