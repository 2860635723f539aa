/- CrcFinds, walked: whatever bytes, place and burst come in, the law's function answers true. Printed in part by wip/gen/crc.py. -/
import Derived.Test.YtjblklejjemdhaaKcrcD
namespace Go.Proofs.Ytjblklejjemdhaa.Kcrc
set_option linter.unusedVariables false
set_option linter.unusedSimpArgs false
open Go.RowKit Go.Proofs.Ytjblklejjemdhaa.PCrcSums Go.Proofs.YtjblklejjemdhaaW.PrintWords Go.Proofs.YtjblklejjemdhaaW.PrintLast Go.Proofs.YtjblklejjemdhaaW.PrintMore Kbase
theorem idx_of (i k q j m : Nat) (hq : q = i + k) (hj : j = q / 8) (hm : m = q % 8) (hb : q < 1000000) : wrap64 ((i : Int) + (k : Int)) = (q : Int) ∧ wrap64 ((q : Int) / 8) = (j : Int) ∧ (q : Int).tmod 8 = (m : Int) := by
  refine ⟨?_, ?_, ?_⟩
  · unfold wrap64; omega
  · unfold wrap64; omega
  · rw [Int.tmod_eq_emod_of_nonneg (Int.natCast_nonneg _)]; omega
theorem wrap_pow8 (m : Nat) (hm : m < 8) : IntKind.u8.wrap ((2 : Int) ^ m) = ((2 ^ m : Nat) : Int) := by
  match m, hm with
  | 0, _ => rfl
  | 1, _ => rfl
  | 2, _ => rfl
  | 3, _ => rfl
  | 4, _ => rfl
  | 5, _ => rfl
  | 6, _ => rfl
  | 7, _ => rfl
theorem pow_lt8 (m : Nat) (hm : m < 8) : 2 ^ m < 256 := Nat.pow_lt_pow_right (by decide) hm
theorem place_of (a : Int) (n : Nat) (h8 : 8 ≤ n) (h3 : n ≤ 3000) : ∃ i : Nat, wrap64 ((IntKind.u64.wrap a).tmod (8 * (n : Int) - 31)) = (i : Int) ∧ i + 32 ≤ 8 * n := by
  have h1 : IntKind.u64.wrap a = a % 18446744073709551616 := by simp [IntKind.wrap, IntKind.bits, IntKind.signed]
  rw [h1]
  have h2 : 0 ≤ a % 18446744073709551616 := Int.emod_nonneg _ (by decide)
  rw [Int.tmod_eq_emod_of_nonneg h2]
  generalize a % 18446744073709551616 = b at *
  have h4 := Int.emod_nonneg b (show 8 * (n : Int) - 31 ≠ 0 by omega)
  have h5 := Int.emod_lt_of_pos b (show 0 < 8 * (n : Int) - 31 by omega)
  refine ⟨(b % (8 * (n : Int) - 31)).toNat, ?_, ?_⟩
  · unfold wrap64
    omega
  · omega
set_option maxHeartbeats 1000000 in
set_option maxRecDepth 100000 in
theorem finds_short (A : Option Addr) (c : Nat) (xs : List Int) (a u : Int) (w : World) (h : xs.length < 8) :
    Calls Try.prog 7 #[.slice A xs.length c, .int .i64 a, .int .u32 u] w fun e w' => e = .returned (.bool true) ∧ Below w.heap.size w w' := by
  have HB := Aside0.mk (Below.refl w.heap.size w)
  have hb2 : decide ((xs.length : Int) < 8) = true := decide_eq_true (by omega)
  clear h
  go_enter Try.func7, Try.ntmps7
  go_wp2_with (go_at_call 14; refine (lives_c _).mono ?_; rintro e w5 ⟨rfl, hb⟩; have n0_ := Aside0.mk (below_step (by repeat (first | (with_reducible first | exact HB.out | apply below_alloc | apply pw_below_drewN | apply below_drew1) | exact HB.out)) hb); clear HB; have HB := n0_; clear n0_ hb)
  go_ret
  exact ⟨rfl, HB.out⟩
set_option maxHeartbeats 1000000 in
set_option maxRecDepth 100000 in
theorem finds_long (A : Option Addr) (c : Nat) (xs : List Int) (a u : Int) (w : World) (h : 3000 < xs.length) :
    Calls Try.prog 7 #[.slice A xs.length c, .int .i64 a, .int .u32 u] w fun e w' => e = .returned (.bool true) ∧ Below w.heap.size w w' := by
  have HB := Aside0.mk (Below.refl w.heap.size w)
  have hb1 : decide ((xs.length : Int) > 3000) = true := decide_eq_true (by omega)
  have hb2 : decide ((xs.length : Int) < 8) = false := decide_eq_false (by omega)
  clear h
  go_enter Try.func7, Try.ntmps7
  go_wp2_with (go_at_call 14; refine (lives_c _).mono ?_; rintro e w5 ⟨rfl, hb⟩; have n0_ := Aside0.mk (below_step (by repeat (first | (with_reducible first | exact HB.out | apply below_alloc | apply pw_below_drewN | apply below_drew1) | exact HB.out)) hb); clear HB; have HB := n0_; clear n0_ hb)
  go_ret
  exact ⟨rfl, HB.out⟩
set_option maxHeartbeats 1000000 in
set_option maxRecDepth 100000 in
theorem finds_none (A : Option Addr) (c : Nat) (xs : List Int) (a : Int) (w : World) (h8 : 8 ≤ xs.length) (h3 : xs.length ≤ 3000) :
    Calls Try.prog 7 #[.slice A xs.length c, .int .i64 a, .int .u32 0] w fun e w' => e = .returned (.bool true) ∧ Below w.heap.size w w' := by
  have HB := Aside0.mk (Below.refl w.heap.size w)
  have hb1 : decide ((xs.length : Int) > 3000) = false := decide_eq_false (by omega)
  have hb2 : decide ((xs.length : Int) < 8) = false := decide_eq_false (by omega)
  clear h8 h3
  go_enter Try.func7, Try.ntmps7
  go_wp2_with (go_at_call 14; refine (lives_c _).mono ?_; rintro e w5 ⟨rfl, hb⟩; have n0_ := Aside0.mk (below_step (by repeat (first | (with_reducible first | exact HB.out | apply below_alloc | apply pw_below_drewN | apply below_drew1) | exact HB.out)) hb); clear HB; have HB := n0_; clear n0_ hb)
  go_ret
  exact ⟨rfl, HB.out⟩
/-- What the copy holds behind k rounds. -/
def Turned (xs : List Int) (i u k : Nat) (cs : List Int) : Prop := cs.length = xs.length ∧ Bytes cs ∧ val cs = val xs ^^^ 2 ^ i * (u % 2 ^ k)
set_option maxHeartbeats 4000000 in
set_option maxRecDepth 100000 in
theorem finds_main (A : Option Addr) (c : Nat) (xs : List Int) (a : Int) (u : Nat) (w : World) (hr : (Kd.int .u8).C w A xs.length xs) (hc : xs.length ≤ c) (hby : Bytes xs) (hu : u < 4294967296) (h8 : 8 ≤ xs.length) (hsm : xs.length ≤ 3000) (hu0 : u ≠ 0) :
    Calls Try.prog 7 #[.slice A xs.length c, .int .i64 a, .int .u32 (u : Int)] w fun e w' => e = .returned (.bool true) ∧ Below w.heap.size w w' := by
  have HR := Aside0.mk hr
  have HC := Aside0.mk hc
  have HBY := Aside0.mk hby
  clear hr hc hby
  have HB := Aside0.mk (Below.refl w.heap.size w)
  have hb1 : decide ((xs.length : Int) > 3000) = false := decide_eq_false (by omega)
  have hb2 : decide ((xs.length : Int) < 8) = false := decide_eq_false (by omega)
  have hb3 : ((u : Int) == 0) = false := beq_eq_false_iff_ne.2 (by omega)
  obtain ⟨i, hi, hi2⟩ := place_of a xs.length h8 hsm
  go_enter Try.func7, Try.ntmps7
  go_wp2_with (first | (go_at_call 14; refine (lives_c _).mono ?_; rintro e w5 ⟨rfl, hb⟩; have n0_ := Aside0.mk (below_step (by repeat (first | (with_reducible first | exact HB.out | apply below_alloc | apply pw_below_drewN | apply below_drew1) | exact HB.out)) hb); clear HB; have HB := n0_; clear n0_ hb) | (at_builtin; refine Kd.R_append_rows (Kd.int .u8) (w0 := w5) w5.heap.size rfl (.tmp 36) (.tmp 37) 24 5 (.int .u8 0) 1 rfl Try.underlying24 info5 rfl (by decide) (by decide) (.slice (some ⟨w5.heap.size, 0, none⟩) 0 0) [] xs A xs.length c (fun _ => True) (fun _ => False) rfl rfl ?aO ?aR (fun _ _ h => h) (fun _ h => h.elim) (fun _ _ => trivial) ?aB ?aS ?aL ?_; (case aO => exact R_empty _ _ _ (Nat.le_refl _)); (case aR => exact Kd.C_alloc (Kd.C_below HR.out HB.out) _); (case aB => exact below_alloc (Below.refl _ _) _); (case aS => simp); (case aL => simp; omega); intro v6 w6 ho hb hg hat; have HBW := Aside0.mk HB.out; rw [List.nil_append] at ho; have HO := Aside0.mk ho; have n0_ := Aside0.mk (below_step HB.out hb); have HL := Aside0.mk hb; clear HB; have HB := n0_; clear n0_ ho hb hg hat; obtain ⟨A6, c6, e6⟩ := Kd.R_slice HO.out; subst e6))
  clear hb1 hb2 hb3 hi
  obtain ⟨g, cap, e6, hg1, hg2⟩ := (Kd.own_of_R HO.out).form (by omega)
  injection e6 with e6 _ e7
  subst e6
  subst e7
  have HG := Aside0.mk hg1
  have HB0 := Aside0.mk (show w.heap.size ≤ w5.heap.size from HBW.out.size)
  clear hg1 hg2
  go_loopw [39] (fun v wr => ∃ k : Nat, k ≤ 32 ∧ v = .int .i64 k ∧ Aside0 (∃ cs, Turned xs i u k cs ∧ Kd.R (Kd.int .u8) 5 wr w5.heap.size (fun _ => True) (.slice (some ⟨g, 0, none⟩) xs.length c6) cs) ∧ Aside0 (Below w.heap.size w wr)) (fun v _ => 32 - (intOf v).toNat)
  case atStart => exact ⟨0, Nat.zero_le _, rfl, ⟨xs, ⟨rfl, HBY.out, by rw [Nat.pow_zero, Nat.mod_one, Nat.mul_zero, Nat.xor_zero]⟩, HO.out⟩, HB⟩
  case round =>
    clear HB HO
    obtain ⟨k, hk, rfl, HO, HB⟩ := hrel
    by_cases hlt : k < 32
    · have hbt : bits BinOp.and IntKind.u32 ((u : Int) / 2 ^ k) 1 = ((u / 2 ^ k % 2 : Nat) : Int) := by
        rw [show ((u : Int) / 2 ^ k) = ((u / 2 ^ k : Nat) : Int) from by simp]
        exact bits_and1 _ (Nat.lt_of_le_of_lt (Nat.div_le_self _ _) hu)
      have HM := Aside0.mk (bit_more u k)
      have h2 : u / 2 ^ k % 2 < 2 := Nat.mod_lt _ (by decide)
      have HBT := Aside0.mk hbt
      clear hbt
      generalize u / 2 ^ k % 2 = t at *
      by_cases ht : t = 1
      · subst ht
        have htt : (bits BinOp.and IntKind.u32 ((u : Int) / 2 ^ k) 1 == 1) = true := by rw [HBT.out]; rfl
        obtain ⟨cs, ⟨hcl, hcb, hcv⟩, hcr⟩ := HO.out
        clear HO
        have HCL := Aside0.mk hcl
        have HCV := Aside0.mk hcv
        have HCR := Aside0.mk hcr
        obtain ⟨q, hq⟩ : ∃ q, q = i + k := ⟨_, rfl⟩
        have hj : q / 8 < cs.length := by omega
        have hcell : wr.cell? ⟨g, q / 8, none⟩ = some (.int .u8 cs[q / 8]) := by
          obtain ⟨ad, e1, hx⟩ := C_at (Kd.R_reads' hcr).2.2 (q / 8) hj hj
          cases e1
          rwa [add_plain] at hx
        have hfree : wr.frozen? ⟨g, q / 8, none⟩ = false := (own_at (k := .u8) (by have h := Kd.own_of_R hcr; rwa [hcl] at h) ((q / 8 : Nat) : Int) (by omega) (by omega)).2
        have HS := Aside0.mk (val_set cs (q / 8) (2 ^ (q % 8)) hj)
        have HP := Aside0.mk (show 2 ^ (8 * (q / 8)) * 2 ^ (q % 8) = 2 ^ i * 2 ^ k by rw [← Nat.pow_add, ← Nat.pow_add]; congr 1; omega)
        have hbx := hcb _ (List.getElem_mem hj)
        generalize hbv : cs[q / 8] = x at *
        obtain ⟨b, rfl⟩ := Int.eq_ofNat_of_zero_le hbx.1
        have hb : b < 256 := by omega
        obtain ⟨j, hjq⟩ : ∃ j, j = q / 8 := ⟨_, rfl⟩
        obtain ⟨m, hmq⟩ : ∃ m, m = q % 8 := ⟨_, rfl⟩
        rw [← hjq] at hcell hfree HS HP hj
        rw [← hmq] at HS HP
        have hm8 : m < 8 := by omega
        go_upto_region 9 with (fail)
        have hjx : j < xs.length := by omega
        have hjn : (j : Int) < (xs.length : Int) := by omega
        obtain ⟨hw1, hw2, hw3⟩ := idx_of i k q j m hq hjq hmq (by omega)
        have hsw := wrap_pow8 m hm8
        have hpm := pow_lt8 m hm8
        generalize 2 ^ m = pm at *
        have hx8 := xor8 b pm hb hpm
        have HQ := Aside0.mk (And.intro hq (And.intro hjq hmq))
        clear hq hjq hmq hcl hcv hbv
        refine start_ (n := 15) (S := (fun w' => w'.cell? ⟨g, j, none⟩ = some (.int .u8 (b : Int)))) (ds := [14]) #[false, false, false, false, false, false, false, false, false, false, false, false, false, false, false] (by kernel_rfl) rfl rfl hcell (fun hHeld => ?_)
        refine pure_ (i := 0) (N := some 47) (v := ?_) (a' := ?_) #[true, false, false, false, false, false, false, false, false, false, false, false, false, false, false] rfl rfl (by kernel_rfl) (fun _ _ _ h => h) (Or.inl ⟨by rfl, ?_⟩) ?_ ?_
        rotate_left
        · intro w'
          go_simp
          with_reducible rfl
        rotate_left
        · simp only [Act.put, List.setIfInBounds_toArray, List.set_cons_zero, List.set_cons_succ, i64_w, i32_w]
          rfl
        refine pure_ (i := 1) (N := some 48) (v := ?_) (a' := ?_) #[true, true, false, false, false, false, false, false, false, false, false, false, false, false, false] rfl rfl (by kernel_rfl) (fun _ _ _ h => h) (Or.inl ⟨by rfl, ?_⟩) ?_ ?_
        rotate_left
        · intro w'
          go_simp
          with_reducible rfl
        rotate_left
        · simp only [Act.put, List.setIfInBounds_toArray, List.set_cons_zero, List.set_cons_succ, i64_w, i32_w]
          rfl
        refine pure_ (i := 2) (N := some 49) (v := ?_) (a' := ?_) #[true, true, true, false, false, false, false, false, false, false, false, false, false, false, false] rfl rfl (by kernel_rfl) (fun _ _ _ h => h) (Or.inl ⟨by rfl, ?_⟩) ?_ ?_
        rotate_left
        · intro w'
          go_simp
          with_reducible rfl
        rotate_left
        · simp only [Act.put, List.setIfInBounds_toArray, List.set_cons_zero, List.set_cons_succ, i64_w, i32_w]
          rfl
        refine pure_ (i := 3) (N := some 50) (v := ?_) (a' := ?_) #[true, true, true, true, false, false, false, false, false, false, false, false, false, false, false] rfl rfl (by kernel_rfl) (fun _ _ _ h => h) (Or.inl ⟨by rfl, ?_⟩) ?_ ?_
        rotate_left
        · intro w'
          go_simp
          with_reducible rfl
        rotate_left
        · simp only [Act.put, List.setIfInBounds_toArray, List.set_cons_zero, List.set_cons_succ, i64_w, i32_w]
          rfl
        refine pure_ (i := 4) (N := some 51) (v := ?_) (a' := ?_) #[true, true, true, true, true, false, false, false, false, false, false, false, false, false, false] rfl rfl (by kernel_rfl) (fun _ _ _ h => h) (Or.inl ⟨by rfl, ?_⟩) ?_ ?_
        rotate_left
        · intro w'
          go_simp
          with_reducible rfl
        rotate_left
        · simp only [Act.put, List.setIfInBounds_toArray, List.set_cons_zero, List.set_cons_succ, i64_w, i32_w]
          rfl
        refine pure_ (i := 5) (N := some 52) (v := ?_) (a' := ?_) #[true, true, true, true, true, true, false, false, false, false, false, false, false, false, false] rfl rfl (by kernel_rfl) (fun _ _ _ h => h) (Or.inl ⟨by rfl, ?_⟩) ?_ ?_
        rotate_left
        · intro w'
          go_simp
          with_reducible rfl
        rotate_left
        · simp only [Act.put, List.setIfInBounds_toArray, List.set_cons_zero, List.set_cons_succ, i64_w, i32_w]
          rfl
        refine take_ (i := 6) (N := some 53) (v := ?_) (a' := ?_) #[true, true, true, true, true, true, true, false, false, false, false, false, false, false, false] rfl rfl (by kernel_rfl) (fun _ _ _ h => h) (Or.inl ⟨by rfl, ?_⟩) hHeld ?_ ?_
        rotate_left
        · intro w' hw'
          have hw2 := hw'
          clear hw'
          go_simp
          with_reducible rfl
        rotate_left
        · simp only [Act.put, List.setIfInBounds_toArray, List.set_cons_zero, List.set_cons_succ, i64_w, i32_w]
          rfl
        refine pure_ (i := 7) (N := some 54) (v := ?_) (a' := ?_) #[true, true, true, true, true, true, true, true, false, false, false, false, false, false, false] rfl rfl (by kernel_rfl) (fun _ _ _ h => h) (Or.inl ⟨by rfl, ?_⟩) ?_ ?_
        rotate_left
        · intro w'
          go_simp
          with_reducible rfl
        rotate_left
        · simp only [Act.put, List.setIfInBounds_toArray, List.set_cons_zero, List.set_cons_succ, i64_w, i32_w]
          rfl
        refine pure_ (i := 8) (N := some 55) (v := ?_) (a' := ?_) #[true, true, true, true, true, true, true, true, true, false, false, false, false, false, false] rfl rfl (by kernel_rfl) (fun _ _ _ h => h) (Or.inl ⟨by rfl, ?_⟩) ?_ ?_
        rotate_left
        · intro w'
          go_simp
          with_reducible rfl
        rotate_left
        · simp only [Act.put, List.setIfInBounds_toArray, List.set_cons_zero, List.set_cons_succ, i64_w, i32_w]
          rfl
        refine pure_ (i := 9) (N := some 56) (v := ?_) (a' := ?_) #[true, true, true, true, true, true, true, true, true, true, false, false, false, false, false] rfl rfl (by kernel_rfl) (fun _ _ _ h => h) (Or.inl ⟨by rfl, ?_⟩) ?_ ?_
        rotate_left
        · intro w'
          go_simp
          with_reducible rfl
        rotate_left
        · simp only [Act.put, List.setIfInBounds_toArray, List.set_cons_zero, List.set_cons_succ, i64_w, i32_w]
          rfl
        refine pure_ (i := 10) (N := some 57) (v := ?_) (a' := ?_) #[true, true, true, true, true, true, true, true, true, true, true, false, false, false, false] rfl rfl (by kernel_rfl) (fun _ _ _ h => h) (Or.inl ⟨by rfl, ?_⟩) ?_ ?_
        rotate_left
        · intro w'
          go_simp
          with_reducible rfl
        rotate_left
        · simp only [Act.put, List.setIfInBounds_toArray, List.set_cons_zero, List.set_cons_succ, i64_w, i32_w]
          rfl
        refine pure_ (i := 11) (N := some 58) (v := ?_) (a' := ?_) #[true, true, true, true, true, true, true, true, true, true, true, true, false, false, false] rfl rfl (by kernel_rfl) (fun _ _ _ h => h) (Or.inl ⟨by rfl, ?_⟩) ?_ ?_
        rotate_left
        · intro w'
          go_simp
          with_reducible rfl
        rotate_left
        · simp only [Act.put, List.setIfInBounds_toArray, List.set_cons_zero, List.set_cons_succ, i64_w, i32_w]
          rfl
        refine pure_ (i := 12) (N := some 59) (v := ?_) (a' := ?_) #[true, true, true, true, true, true, true, true, true, true, true, true, true, false, false] rfl rfl (by kernel_rfl) (fun _ _ _ h => h) (Or.inl ⟨by rfl, ?_⟩) ?_ ?_
        rotate_left
        · intro w'
          go_simp
          with_reducible rfl
        rotate_left
        · simp only [Act.put, List.setIfInBounds_toArray, List.set_cons_zero, List.set_cons_succ, i64_w, i32_w]
          rfl
        refine pure_ (i := 13) (N := some 60) (v := ?_) (a' := ?_) #[true, true, true, true, true, true, true, true, true, true, true, true, true, true, false] rfl rfl (by kernel_rfl) (fun _ _ _ h => h) (Or.inl ⟨by rfl, ?_⟩) ?_ ?_
        rotate_left
        · intro w'
          go_simp
          with_reducible rfl
        rotate_left
        · simp only [Act.put, List.setIfInBounds_toArray, List.set_cons_zero, List.set_cons_succ, i64_w, i32_w]
          rfl
        refine last_ (i := 14) (N := none) #[true, true, true, true, true, true, true, true, true, true, true, true, true, true, true] rfl rfl (by kernel_rfl) (by decide) (fun K hK => ?_)
        refine skip_ (w1 := ?_) (by rfl) rfl ?_ ?_
        rotate_left
        · go_simp
          rfl
        refine hK.out _ _ ?_
        clear hK K
        refine done_ (by kernel_rfl) ?_
        go_wp2
        go_roundw
        case measure => simp [intOf]; omega
        case rel =>
          refine ⟨k + 1, by omega, by go_num, ⟨cs.set j ((b ^^^ pm : Nat) : Int), ⟨?_, ?_, ?_⟩, ?_⟩, ⟨?_⟩⟩
          · rw [List.length_set]; exact HCL.out
          · intro n hn
            rcases List.mem_or_eq_of_mem_set hn with h | h
            · exact hcb n h
            · have := Nat.xor_lt_two_pow (n := 8) hb hpm
              omega
          · have h := HS.out
            rw [Int.toNat_natCast] at h
            rw [h, HCV.out, HM.out, Nat.mul_one, mul_xor, HP.out, Nat.xor_assoc]
          · exact Kd.R_putn HCR.out (j : Int) ((b ^^^ pm : Nat) : Int)
          · exact below_drew (HB.out.setCell (p := ⟨g, j, none⟩) (Nat.le_trans HB0.out HG.out) _)
      · have htt : (bits BinOp.and IntKind.u32 ((u : Int) / 2 ^ k) 1 == 1) = false := by rw [HBT.out]; exact beq_eq_false_iff_ne.2 (by omega)
        obtain rfl : t = 0 := by omega
        clear ht h2
        go_wp2
        go_roundw
        case measure => simp [intOf]; omega
        case rel =>
          obtain ⟨cs, ⟨hcl, hcb, hcv⟩, hcr⟩ := HO.out
          exact ⟨k + 1, by omega, by go_num, ⟨cs, ⟨hcl, hcb, by rw [hcv, HM.out, Nat.mul_zero, Nat.xor_zero]⟩, hcr⟩, HB⟩
    · have hke : k = 32 := by omega
      obtain ⟨cs, ⟨hcl, hcb, hcv⟩, hcr⟩ := HO.out
      have HF := Aside0.mk (burst_found 0 xs cs HBY.out hcb hcl i u (by omega) hu hu0 (by rw [hcv, hke, Nat.mod_eq_of_lt (show u < 2 ^ 32 from hu)]))
      have HCB := Aside0.mk hcb
      have HCR := Aside0.mk hcr
      have HCL := Aside0.mk hcl
      clear hcl hcb hcv hcr HO
      have HC6 := Aside0.mk (Kd.R_reads' HCR.out)
      go_wp2_with (fail)
      refine (sum_c _ 1 1 [cs] _ rfl (C_box (n := xs.length) (c := c6) (by rw [← HCL.out]; exact HC6.out.2.2) HCL.out HC6.out.2.1) (by intro b hb; rw [List.mem_singleton.1 hb]; exact HCB.out)).mono ?_
      rintro e w11 ⟨rfl, hb⟩
      rw [show [cs].flatten = cs by simp]
      have n0_ := Aside0.mk (below_step (below_alloc HB.out _) hb)
      clear HB
      have HB := n0_
      clear n0_ hb
      go_wp2_with (fail)
      refine (sum_c _ 1 1 [xs] _ rfl (C_box (Kd.C_below HR.out HB.out) rfl HC.out) (by intro b hb; rw [List.mem_singleton.1 hb]; exact HBY.out)).mono ?_
      rintro e w12 ⟨rfl, hb⟩
      rw [show [xs].flatten = xs by simp]
      have n0_ := Aside0.mk (below_step (below_alloc HB.out _) hb)
      clear HB
      have HB := n0_
      clear n0_ hb
      go_wp2
      go_ret
      exact ⟨by simp; exact fun h => HF.out (Int.ofNat.inj h), HB.out⟩
theorem finds_any (A : Option Addr) (c : Nat) (xs : List Int) (a u : Int) (w : World) (hr : (Kd.int .u8).C w A xs.length xs) (hc : xs.length ≤ c) (hby : Bytes xs) (hu : (Lit.int .u32 u).wf = true) :
    Calls Try.prog 7 #[.slice A xs.length c, .int .i64 a, .int .u32 u] w fun e w' => e = .returned (.bool true) ∧ Below w.heap.size w w' := by
  by_cases h8 : xs.length < 8
  · exact finds_short A c xs a u w h8
  · by_cases h3 : 3000 < xs.length
    · exact finds_long A c xs a u w h3
    · simp [Lit.wf, IntKind.min, IntKind.max, IntKind.signed, IntKind.bits] at hu
      obtain ⟨n, rfl⟩ := Int.eq_ofNat_of_zero_le hu.1
      by_cases h0 : n = 0
      · subst h0
        exact finds_none A c xs a w (by omega) (by omega)
      · exact finds_main A c xs a n w hr hc hby (by omega) (by omega) (by omega) h0
end Go.Proofs.Ytjblklejjemdhaa.Kcrc
