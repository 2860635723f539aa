/- crc.Sum, the reference's Update and the example, walked. -/
import Derived.Test.YtjblklejjemdhaaKcrcB
import Derived.Lib.SlBytesConst
namespace Go.Proofs.Ytjblklejjemdhaa.Kcrc
set_option linter.unusedVariables false
set_option linter.unusedSimpArgs false
open Go.RowKit Go.Proofs.Ytjblklejjemdhaa.PCrcSums Go.Proofs.YtjblklejjemdhaaW.PrintWords Go.Proofs.YtjblklejjemdhaaW.PrintLast Go.Proofs.YtjblklejjemdhaaW.PrintMore Kbase
theorem ret_int {k : IntKind} {a b : Int} (h : a = b) : Ending.returned (.int k a) = .returned (.int k b) := by rw [h]
theorem flat_bytes {l : List (List Int)} (h : ∀ b ∈ l, Bytes b) : Bytes l.flatten := fun n hn => by
  obtain ⟨b, hb, hm⟩ := List.mem_flatten.1 hn
  exact h b hb n hm
set_option maxHeartbeats 1000000 in
set_option maxRecDepth 100000 in
theorem sum_c (A : Option Addr) (n c : Nat) (l : List (List Int)) (w : World) (hn : n = l.length) (hr : (Kd.slice 5 (Kd.int .u8)).C w A n l) (hb : ∀ b ∈ l, Bytes b) :
    Calls Try.prog 17 #[.slice A n c] w fun e w' => e = .returned (.int .u32 ((update 0 l.flatten : Nat) : Int)) ∧ Below w.heap.size w w' := by
  have hlen : n ≤ 9223372036854775807 := hr.2.1
  have HR := Aside0.mk hr
  have HB := Aside0.mk hb
  have HN := Aside0.mk hn
  clear hr hb hn
  go_enter Try.func17, Try.ntmps17
  go_wp2
  go_loopw [3, 8] (fun v i wr => ∃ k : Nat, k ≤ n ∧ i = .int .i64 k ∧ v = .int .u32 ((update 0 (l.take k).flatten : Nat) : Int) ∧ Aside0 (Below w.heap.size w wr)) (fun _ i _ => n - (intOf i).toNat)
  case atStart => exact ⟨0, Nat.zero_le _, rfl, by rw [List.take_zero, List.flatten_nil, update_nil 0 (by decide)]; rfl, ⟨Below.refl _ _⟩⟩
  case round =>
    obtain ⟨k, hk, rfl, rfl, HL⟩ := hrel
    by_cases hlt : k < n
    · have hlx : k < l.length := by rw [← HN.out]; exact hlt
      obtain ⟨ad, A1, c1, e1, hx1, hl1, hC1⟩ := C_row_at (Kd.C_below HR.out HL.out) k hlt hlx
      subst e1
      have HT := Aside0.mk (show update (update 0 (l.take k).flatten) l[k] = update 0 (l.take (k + 1)).flatten by
        rw [update_append _ _ _ (flat_bytes (fun b hb => HB.out b (List.mem_of_mem_take hb))), List.take_succ_eq_append_getElem hlx, List.flatten_append]
        simp)
      have HC1 := Aside0.mk hC1
      have HBX := Aside0.mk (HB.out _ (List.getElem_mem hlx))
      have hu : update 0 (l.take k).flatten < 4294967296 := by have := update_le 0 (l.take k).flatten; omega
      generalize update 0 (l.take k).flatten = s at *
      generalize l[k] = b at *
      clear hC1 hl1
      go_wp2_with (fail)
      refine (update_c A1 b.length c1 s b _ hu rfl HC1.out HBX.out).mono ?_
      rintro e w1 ⟨rfl, hb1⟩
      have HL1 := Aside0.mk (below_step HL.out hb1)
      clear hb1
      go_wp2_with (fail)
      go_roundw
      case rel => exact ⟨k + 1, by omega, by go_num, by rw [HT.out], HL1⟩
      case measure => simp [intOf]; omega
    · obtain rfl : k = n := by omega
      have HTK := Aside0.mk (show l.take k = l by rw [HN.out]; exact List.take_length)
      rw [HTK.out]
      go_wp2
      go_ret
      exact ⟨rfl, HL.out⟩
set_option maxHeartbeats 1000000 in
set_option maxRecDepth 100000 in
theorem ref_update_c (A : Option Addr) (n c : Nat) (s : Nat) (xs : List Int) (w : World) (hs : s < 4294967296) (hn : n = xs.length) (hr : (Kd.int .u8).C w A n xs) (hb : Bytes xs) :
    Calls Try.prog 16 #[.int .u32 (s : Int), .slice A n c] w fun e w' => e = .returned (.int .u32 ((update s xs : Nat) : Int)) ∧ Below w.heap.size w w' := by
  have hlen : n ≤ 9223372036854775807 := hr.2.1
  have HR := Aside0.mk hr
  have HB := Aside0.mk hb
  have HN := Aside0.mk hn
  clear hr hb hn
  go_enter Try.func16, Try.ntmps16
  go_wp2
  go_loop [5, 6] (fun v i => ∃ k : Nat, k ≤ n ∧ i = .int .i64 k ∧ v = .int .u32 ((reg (4294967295 - s) (xs.take k) : Nat) : Int)) (fun _ i => n - (intOf i).toNat)
  case atStart => exact ⟨0, Nat.zero_le _, rfl, by rw [List.take_zero, show reg (4294967295 - s) [] = 4294967295 - s from rfl, show ((4294967295 - s : Nat) : Int) = 4294967295 - (s : Int) from by omega]⟩
  case round =>
    obtain ⟨k, hk, rfl, rfl⟩ := hrel
    by_cases hlt : k < n
    · have hlx : k < xs.length := by rw [← HN.out]; exact hlt
      obtain ⟨ad, e1, hx1⟩ := C_at HR.out k hlt hlx
      subst e1
      have HT := Aside0.mk (show reg (4294967295 - s) (xs.take (k + 1)) = upd (reg (4294967295 - s) (xs.take k)) xs[k].toNat by rw [List.take_succ_eq_append_getElem hlx, reg_snoc])
      have hc : reg (4294967295 - s) (xs.take k) < 4294967296 := reg_lt (fun n hn => HB.out n (List.mem_of_mem_take hn)) (by omega)
      have hbx := HB.out _ (List.getElem_mem hlx)
      generalize reg (4294967295 - s) (xs.take k) = r at *
      generalize xs[k] = x at *
      obtain ⟨b, rfl⟩ := Int.eq_ofNat_of_zero_le hbx.1
      rw [Int.toNat_natCast] at HT
      have hb : b < 256 := by omega
      clear hbx
      go_wp2
      go_loop [5, 7] (fun v j => ∃ m : Nat, m ≤ 8 ∧ j = .int .i64 m ∧ v = .int .u32 ((it m (r ^^^ b % 2 ^ m) : Nat) : Int)) (fun _ j => 8 - (intOf j).toNat)
      case atStart => exact ⟨0, Nat.zero_le _, rfl, by simp [it, Nat.mod_one]⟩
      case round =>
        obtain ⟨m, hm, rfl, rfl⟩ := hrel
        by_cases hlt8 : m < 8
        · have hc2 : it m (r ^^^ b % 2 ^ m) < 4294967296 := it_lt m (Nat.xor_lt_two_pow (n := 32) hc (by have := Nat.mod_le b (2 ^ m); omega))
          have HI := Aside0.mk (it_bit m r b)
          generalize it m (r ^^^ b % 2 ^ m) = d at *
          have hbt : ((b : Int) / 2 ^ m).tmod 2 = ((b / 2 ^ m % 2 : Nat) : Int) := by
            rw [show ((b : Int) / 2 ^ m) = ((b / 2 ^ m : Nat) : Int) from by simp, Int.tmod_eq_emod_of_nonneg (Int.natCast_nonneg _)]
            generalize b / 2 ^ m = q
            omega
          have ht2 : b / 2 ^ m % 2 < 2 := Nat.mod_lt _ (by decide)
          have HS := Aside0.mk (st_bit d _ ht2)
          have HBT := Aside0.mk hbt
          clear hbt
          generalize b / 2 ^ m % 2 = t at *
          by_cases ho : d % 2 = t
          · have ht : ((d : Int) % 2 != ((b : Int) / 2 ^ m).tmod 2) = false := by rw [HBT.out, bne_eq_false_iff_eq]; omega
            clear ht2
            go_wp2
            go_round
            case rel => exact ⟨m + 1, by omega, by go_num, by rw [HI.out, HS.out, if_pos ho, show ((d : Int) / 2) = ((d / 2 : Nat) : Int) from by omega]⟩
            case measure => simp [intOf]; omega
          · have ht : ((d : Int) % 2 != ((b : Int) / 2 ^ m).tmod 2) = true := by rw [HBT.out, bne_iff_ne]; omega
            clear ht2
            go_wp2
            go_round
            case rel => exact ⟨m + 1, by omega, by go_num, by rw [HI.out, HS.out, if_neg ho, show ((d : Int) / 2) = ((d / 2 : Nat) : Int) from by omega, show (3988292384 : Int) = ((3988292384 : Nat) : Int) from rfl, xor32 _ _ (by omega) (by decide)]⟩
            case measure => simp [intOf]; omega
        · obtain rfl : m = 8 := by omega
          have HU := Aside0.mk (show it 8 (r ^^^ b % 2 ^ 8) = upd r b by rw [Nat.mod_eq_of_lt hb, upd_eq])
          rw [HU.out]
          go_wp2
          go_round
          case rel => exact ⟨k + 1, by omega, by go_num, by rw [HT.out]⟩
          case measure => simp [intOf]; omega
    · obtain rfl : k = n := by omega
      have hc : reg (4294967295 - s) xs < 4294967296 := reg_lt HB.out (by omega)
      have HTK := Aside0.mk (show xs.take k = xs by rw [HN.out]; exact List.take_length)
      rw [HTK.out]
      have HUP := Aside0.mk (show update s xs = 4294967295 - reg (4294967295 - s) xs from rfl)
      generalize reg (4294967295 - s) xs = r at *
      go_wp2
      go_ret
      exact ⟨ret_int (by rw [HUP.out]; omega), Below.refl _ _⟩
theorem lives_box (w : World) : (Kd.slice 5 (Kd.int .u8)).C (((w.alloc (.cells #[.int .u8 49, .int .u8 50, .int .u8 51, .int .u8 52] 5 (4, 5))).alloc (.cells #[.int .u8 53, .int .u8 54, .int .u8 55, .int .u8 56, .int .u8 57] 5 (5, 6))).alloc
    (.cells #[.slice (some ⟨w.heap.size, 0, none⟩) 4 4, .slice (some ⟨w.heap.size + 1, 0, none⟩) 5 5] 24)) (some ⟨w.heap.size + 1 + 1, 0, none⟩) 2 [[49, 50, 51, 52], [53, 54, 55, 56, 57]] := by
  have h1 := Kd.C_alloc (C_lit w 5 (4, 5) .u8 [49, 50, 51, 52] (by decide)) (.cells #[.int .u8 53, .int .u8 54, .int .u8 55, .int .u8 56, .int .u8 57] 5 (5, 6))
  have h2 := C_lit (w.alloc (.cells #[.int .u8 49, .int .u8 50, .int .u8 51, .int .u8 52] 5 (4, 5))) 5 (5, 6) .u8 [53, 54, 55, 56, 57] (by decide)
  have h := C_box2 (e := 24) (q := 5) h1 rfl (Nat.le_refl _) h2 rfl (Nat.le_refl _)
  have e1 : (w.alloc (.cells #[.int .u8 49, .int .u8 50, .int .u8 51, .int .u8 52] 5 (4, 5))).heap.size = w.heap.size + 1 := by simp
  have e2 : ((w.alloc (.cells #[.int .u8 49, .int .u8 50, .int .u8 51, .int .u8 52] 5 (4, 5))).alloc (.cells #[.int .u8 53, .int .u8 54, .int .u8 55, .int .u8 56, .int .u8 57] 5 (5, 6))).heap.size = w.heap.size + 1 + 1 := by simp
  rw [e1] at h
  rw [← e2]
  exact h
theorem example_sum : update 0 ([49, 50, 51, 52] ++ [53, 54, 55, 56, 57]) = 3421780262 := by decide +kernel
set_option maxHeartbeats 1000000 in
set_option maxRecDepth 100000 in
theorem lives_c (w : World) : Calls Try.prog 14 #[] w fun e w' => e = .returned (.bool true) ∧ Below w.heap.size w w' := by
  have kc := fun (w : World) (C : Array Value) (n c : Nat) => Lib.run_convert_bytes_const (P := Try.prog) w 24 5 C n c Try.underlying24 Try.underlying5
  have kc2 : ∀ (o : Obj) (C : Array Value) (n c : Nat), (convert 24 24 (.slice (some ⟨w.heap.size + 1, 0, none⟩) n c)).run Try.prog ((w.alloc o).alloc (.cells C 5)) = .ok (.slice (some ⟨w.heap.size + 1, 0, none⟩) n c) ((w.alloc o).alloc (.cells C 5 (C.size, C.size + 1))) := fun o C n c => by
    have h := Lib.run_convert_bytes_const (P := Try.prog) (w.alloc o) 24 5 C n c Try.underlying24 Try.underlying5
    rwa [show (w.alloc o).heap.size = w.heap.size + 1 from by simp] at h
  go_enter Try.func14, Try.ntmps14
  go_wp2_with (fail)
  refine (sum_c (some ⟨w.heap.size + 1 + 1, 0, none⟩) 2 2 [[49, 50, 51, 52], [53, 54, 55, 56, 57]] _ rfl (lives_box w) (by intro b hb; simp at hb; rcases hb with rfl | rfl <;> intro n hn <;> simp at hn <;> omega)).mono ?_
  rintro e w1 ⟨rfl, hb⟩
  have hB : Below w.heap.size w w1 := below_step (below_alloc (below_alloc (below_alloc (Below.refl _ _) _) _) _) hb
  clear hb kc kc2
  rw [show ([[49, 50, 51, 52], [53, 54, 55, 56, 57]] : List (List Int)).flatten = [49, 50, 51, 52] ++ [53, 54, 55, 56, 57] from rfl, example_sum]
  go_wp2
  go_ret
  exact ⟨rfl, hB⟩
end Go.Proofs.Ytjblklejjemdhaa.Kcrc
