/- crc.table and crc.Update, walked. -/
import Derived.Test.YtjblklejjemdhaaKcrcA
import Derived.Test.YtjblklejjemdhaaPCrcSumsx0
import Derived.Laws.CopyOwn
import Derived.Deep.WholeRow
namespace Go.Proofs.Ytjblklejjemdhaa.Kcrc
set_option linter.unusedVariables false
set_option linter.unusedSimpArgs false
open Go.RowKit Go.Proofs.Ytjblklejjemdhaa.PCrcSums Go.Proofs.YtjblklejjemdhaaW.PrintWords Go.Proofs.YtjblklejjemdhaaW.PrintLast Go.Proofs.YtjblklejjemdhaaW.PrintMore Kbase
/-- The table's cells when its first k rows have been filled. -/
def tabs (k : Nat) : Array Value := ((List.range 256).map fun j => Value.int .u32 ((if j < k then tab j else 0 : Nat) : Int)).toArray
theorem run_alloc_tab (W : World) : (Instr.alloc 55 true (.tuple #[])).run Try.prog W = .ok (.pointer (some ⟨W.heap.size, 0, none⟩)) (W.alloc (.cells (tabs 0) 55)) := by kernel_rfl
section
variable {ops : Array Oper} {rest : List Oper} {o : Oper} {a : Act} {Q : Exit → Act → World → Prop} {W : World}
theorem alloc_tab (N : Tmp) (hd : o.dst = some N) (hgd : o.guard = none) (ho : o.op = .alloc 55) (h : wpList Try.prog ops Q rest (a.put (some N) (.pointer (some ⟨W.heap.size, 0, none⟩))) (W.alloc (.cells (tabs 0) 55))) : wpList Try.prog ops Q (o :: rest) a W := by
  rw [← hd] at h
  refine Kd.event_run hgd ?_ h
  unfold execOp
  rw [ho]
  simp only [Sem.run_bind, run_alloc_tab]
  rfl
end
theorem tabs_len (k : Nat) : (tabs k).size = 256 := by simp [tabs]
theorem tabs_at (k j : Nat) (h : j < 256) : (tabs k)[j]? = some (.int .u32 ((if j < k then tab j else 0 : Nat) : Int)) := by
  simp [tabs, h]
theorem tabs_set (k : Nat) (h : k < 256) : (tabs k).setIfInBounds k (.int .u32 (tab k : Int)) = tabs (k + 1) := by
  apply Array.ext_getElem?
  intro j
  rw [Array.getElem?_setIfInBounds, tabs_len]
  by_cases hj : j < 256
  · rw [tabs_at k j hj, tabs_at (k + 1) j hj]
    by_cases he : k = j
    · subst he
      simp [h]
    · rw [if_neg he]
      by_cases hlt : j < k
      · rw [if_pos hlt, if_pos (by omega)]
      · rw [if_neg hlt, if_neg (by omega)]
  · have h1 : (tabs k)[j]? = none := by rw [Array.getElem?_eq_none_iff, tabs_len]; omega
    have h2 : (tabs (k + 1))[j]? = none := by rw [Array.getElem?_eq_none_iff, tabs_len]; omega
    rw [h1, h2, if_neg (by omega)]
theorem tabs_one (k : Nat) : (tabs k).all (·.oneCell') = true := by
  rw [Array.all_eq_true_iff_forall_mem]
  intro v hv
  simp [tabs] at hv
  obtain ⟨j, _, rfl⟩ := hv
  rfl
theorem tabs_size (k : Nat) : (Try.prog.info? 55).map (·.size) = some (tabs k).size := by
  rw [tabs_len]
  kernel_rfl
theorem bits_and1 (c : Nat) (h : c < 4294967296) : bits .and .u32 (c : Int) 1 = ((c % 2 : Nat) : Int) := by
  have := (bits_nat .u32 32 (by decide) (fun n h0 h1 => by rw [IntKind.wrap_u32]; omega) c 1 h (by decide)).1
  rw [Nat.and_one_is_mod] at this
  exact this
theorem bits_xor_nat (k : IntKind) (j : Nat) (hj : j ≤ k.bits) (hk : ∀ n : Int, 0 ≤ n → n < 2 ^ j → k.wrap n = n) (a b : Nat) (ha : a < 2 ^ j) (hb : b < 2 ^ j) : bits .xor k a b = ((a ^^^ b : Nat) : Int) := by
  have hp : 2 ^ j ≤ 2 ^ k.bits := Nat.pow_le_pow_right (by decide) hj
  have ha' : a % 2 ^ k.bits = a := Nat.mod_eq_of_lt (Nat.lt_of_lt_of_le ha hp)
  have hb' : b % 2 ^ k.bits = b := Nat.mod_eq_of_lt (Nat.lt_of_lt_of_le hb hp)
  simp only [bits, BitVec.ofInt_natCast, BitVec.toNat_xor, BitVec.toNat_ofNat, ha', hb']
  exact hk _ (Int.natCast_nonneg _) (by exact_mod_cast Nat.xor_lt_two_pow ha hb)
theorem xor32 (a b : Nat) (ha : a < 4294967296) (hb : b < 4294967296) : bits .xor .u32 (a : Int) (b : Int) = ((a ^^^ b : Nat) : Int) :=
  bits_xor_nat .u32 32 (by decide) (fun n h0 h1 => by rw [IntKind.wrap_u32]; omega) a b ha hb
theorem xor8 (a b : Nat) (ha : a < 256) (hb : b < 256) : bits .xor .u8 (a : Int) (b : Int) = ((a ^^^ b : Nat) : Int) :=
  bits_xor_nat .u8 8 (by decide) (fun n h0 h1 => by rw [IntKind.wrap_u8]; omega) a b ha hb
set_option maxHeartbeats 1000000 in
set_option maxRecDepth 100000 in
theorem table_c (w : World) : Calls Try.prog 28 #[] w fun e w' => e = .returned (.agg (tabs 256)) ∧ Below w.heap.size w w' := by
  go_enter Try.func28, Try.ntmps28
  go_wp2_with (first | ((with_reducible refine gate_dst (N := 0) rfl ?_); refine alloc_tab 0 rfl rfl rfl ?_) | ((with_reducible refine gate_dst (N := 1) rfl ?_); refine alloc_tab 1 rfl rfl rfl ?_))
  go_loopw [4] (fun i wr => ∃ k : Nat, k ≤ 256 ∧ i = .int .i64 k ∧ Aside0 (wr.heap[w.heap.size + 1]? = some (.cells (tabs k) 55 (0, 0))) ∧ Aside0 (wr.heap[w.heap.size]? = some (.cells (tabs 0) 55 (0, 0))) ∧ Aside0 (Below w.heap.size w wr)) (fun i _ => 256 - (intOf i).toNat)
  case atStart => exact ⟨0, Nat.zero_le _, rfl, ⟨by have := heap_alloc2_new w (.cells (tabs 0) 55) (.cells (tabs 0) 55); exact this⟩, ⟨heap_alloc2_old w _ _⟩, ⟨below_alloc (below_alloc (Below.refl _ _) _) _⟩⟩
  case round =>
    obtain ⟨k, hk, rfl, H1, H0, HB⟩ := hrel
    by_cases hlt : k < 256
    · go_wp2
      go_loop [3, 9] (fun c j => ∃ m : Nat, m ≤ 8 ∧ j = .int .i64 m ∧ c = .int .u32 ((it m k : Nat) : Int)) (fun _ j => 8 - (intOf j).toNat)
      case atStart => exact ⟨0, Nat.zero_le _, rfl, rfl⟩
      case round =>
        obtain ⟨m, hm, rfl, rfl⟩ := hrel
        by_cases hlt8 : m < 8
        · have hc := it_lt m (c := k) (by omega)
          have HC := Aside0.mk (it_snoc m k)
          generalize it m k = c at *
          by_cases ho : c % 2 = 1
          · have ht : (bits BinOp.and IntKind.u32 (c : Int) 1 == 1) = true := by rw [bits_and1 c hc, ho]; rfl
            go_wp2
            go_round
            case rel => exact ⟨m + 1, by omega, by go_num, by rw [HC.out, show ((c : Int) / 2) = ((c / 2 : Nat) : Int) from by omega, show (3988292384 : Int) = ((3988292384 : Nat) : Int) from rfl, xor32 _ _ (by omega) (by decide)]; unfold st; rw [if_pos ho]⟩
            case measure => simp [intOf]; omega
          · have ht : (bits BinOp.and IntKind.u32 (c : Int) 1 == 1) = false := by rw [bits_and1 c hc, show c % 2 = 0 from by omega]; rfl
            go_wp2
            go_round
            case rel => exact ⟨m + 1, by omega, by go_num, by rw [HC.out, show ((c : Int) / 2) = ((c / 2 : Nat) : Int) from by omega]; unfold st; rw [if_neg ho]⟩
            case measure => simp [intOf]; omega
        · obtain rfl : m = 8 := by omega
          have hcell := (cell_of_row wr (w.heap.size + 1) k (tabs k) 55 (0, 0) H1.out).trans (tabs_at k k hlt)
          have hfree := frozen_of_row wr (w.heap.size + 1) k (tabs k) 55 H1.out
          have HT := Aside0.mk (show it 8 k = tab k from rfl)
          go_wp2
          go_roundw
          case measure => simp [intOf]; omega
          case rel =>
            refine ⟨k + 1, by omega, by go_num, ⟨?_⟩, ⟨?_⟩, ⟨?_⟩⟩
            · rw [heap_setCell_same wr (w.heap.size + 1) k (tabs k) 55 _ H1.out, HT.out, tabs_set k hlt]
            · rw [heap_setCell_other _ _ _ _ (by simp)]; exact H0.out
            · exact HB.out.setCell (by simp) _
    · obtain rfl : k = 256 := by omega
      go_wp2_with (first | ((with_reducible refine gate_dst (N := 24) rfl ?_); refine wpList_load_row rfl 55 (.tmp 1) rfl (w.heap.size + 1) rfl 55 (tabs 256) (0, 0) _ H1.out Try.underlying55 rfl (tabs_size 256) ?_) | (refine wpList_store_row rfl 55 (.tmp 0) (.tmp 24) rfl w.heap.size (tabs 256) rfl rfl 55 (tabs 0) H0.out (tabs_size 256) (by rw [tabs_len, tabs_len]) (tabs_one 256) ?_))
      refine bodyPost_ret (v := .agg (tabs 256)) ?_ rfl ⟨rfl, below_setRow HB.out (Nat.le_refl _) _⟩
      exact results_cell_row rfl _ _ w.heap.size 55 (tabs 256) (0, 0) _ rfl (setRow_heap _ _ _ _ _ _ H0.out) Try.underlying55 rfl (tabs_size 256)
theorem not32 (s : Nat) (h : s < 4294967296) : 4294967295 ^^^ s = 4294967295 - s := by
  apply Nat.eq_of_testBit_eq
  intro i
  rw [Nat.testBit_xor, show (4294967295 : Nat) = 2 ^ 32 - 1 from rfl, Nat.testBit_two_pow_sub_one, show 2 ^ 32 - 1 - s = 2 ^ 32 - (s + 1) from by omega, Nat.testBit_two_pow_sub_succ (by omega)]
  by_cases hi : i < 32
  · simp [hi]
  · simp [hi]
    exact Nat.testBit_lt_two_pow (Nat.lt_of_lt_of_le h (Nat.pow_le_pow_right (n := 2) (i := 32) (by decide) (by omega)))
theorem bits_not32 (s : Nat) (h : s < 4294967296) : bits .xor .u32 IntKind.u32.max (s : Int) = ((4294967295 - s : Nat) : Int) := by
  rw [← not32 s h]
  exact xor32 4294967295 s (by decide) h
set_option maxHeartbeats 1000000 in
set_option maxRecDepth 100000 in
theorem update_c (A : Option Addr) (n c : Nat) (s : Nat) (xs : List Int) (w : World) (hs : s < 4294967296) (hn : n = xs.length) (hr : (Kd.int .u8).C w A n xs) (hb : Bytes xs) :
    Calls Try.prog 15 #[.int .u32 (s : Int), .slice A n c] w fun e w' => e = .returned (.int .u32 ((update s xs : Nat) : Int)) ∧ Below w.heap.size w w' := by
  have hlen : n ≤ 9223372036854775807 := hr.2.1
  have HR := Aside0.mk hr
  have HB := Aside0.mk hb
  have HN := Aside0.mk hn
  clear hr hb hn
  go_enter Try.func15, Try.ntmps15
  go_wp2_with (fail)
  refine (table_c _).mono ?_
  rintro e w1 ⟨rfl, hb1⟩
  have HW := Aside0.mk hb1
  clear hb1
  go_wp2_with (first | ((with_reducible refine gate_dst (N := 5) rfl ?_); refine alloc_tab 5 rfl rfl rfl ?_) | (refine wpList_store_row rfl 55 (.tmp 5) (.tmp 9) rfl w1.heap.size (tabs 256) rfl rfl 55 (tabs 0) (heap_alloc_new _ _) (tabs_size 256) (by rw [tabs_len, tabs_len]) (tabs_one 256) ?_; rw [World.setRow_alloc_new]))
  have HL := Aside0.mk (show Below w.heap.size w (w1.alloc (.cells (tabs 256) 55)) from below_alloc HW.out _)
  have HCT := Aside0.mk (show ∀ j, j < 256 → (w1.alloc (.cells (tabs 256) 55)).cell? ⟨w1.heap.size, j, none⟩ = some (.int .u32 ((tab j : Nat) : Int)) from fun j hj => by
    rw [cell_of_row _ _ j (tabs 256) 55 (0, 0) (heap_alloc_new _ _), tabs_at 256 j hj, if_pos hj])
  go_loop [6, 14] (fun v i => ∃ k : Nat, k ≤ n ∧ i = .int .i64 k ∧ v = .int .u32 ((reg (4294967295 - s) (xs.take k) : Nat) : Int)) (fun _ i => n - (intOf i).toNat)
  case atStart => exact ⟨0, Nat.zero_le _, rfl, by rw [bits_not32 s hs]; rfl⟩
  case round =>
    obtain ⟨k, hk, rfl, rfl⟩ := hrel
    by_cases hlt : k < n
    · have hlx : k < xs.length := by rw [← HN.out]; exact hlt
      obtain ⟨ad, e1, hx1⟩ := C_at (Kd.C_below HR.out HL.out) k hlt hlx
      subst e1
      have HT := Aside0.mk (show reg (4294967295 - s) (xs.take (k + 1)) = upd (reg (4294967295 - s) (xs.take k)) xs[k].toNat by rw [List.take_succ_eq_append_getElem hlx, reg_snoc])
      have hc : reg (4294967295 - s) (xs.take k) < 4294967296 := reg_lt (fun n hn => HB.out n (List.mem_of_mem_take hn)) (by omega)
      have hbx := HB.out _ (List.getElem_mem hlx)
      generalize reg (4294967295 - s) (xs.take k) = r at *
      generalize xs[k] = x at *
      obtain ⟨b, rfl⟩ := Int.eq_ofNat_of_zero_le hbx.1
      rw [Int.toNat_natCast] at HT
      have hb : b < 256 := by omega
      have hj : r % 256 ^^^ b < 256 := Nat.xor_lt_two_pow (n := 8) (by omega) hb
      have hq : bits BinOp.xor IntKind.u8 ((r : Int) % 256) (b : Int) = ((r % 256 ^^^ b : Nat) : Int) := by
        rw [show (r : Int) % 256 = ((r % 256 : Nat) : Int) from by omega]
        exact xor8 _ _ (by omega) hb
      have HU := Aside0.mk (show upd r b = tab (r % 256 ^^^ b) ^^^ r / 256 from rfl)
      generalize r % 256 ^^^ b = j at *
      have hcell := HCT.out j hj
      have ht : tab j < 4294967296 := it_lt 8 (by omega)
      have hu : bits BinOp.xor IntKind.u32 ((tab j : Nat) : Int) ((r : Int) / 256) = ((upd r b : Nat) : Int) := by
        rw [show (r : Int) / 256 = ((r / 256 : Nat) : Int) from by omega, xor32 _ _ ht (by omega), HU.out]
      clear hbx
      go_wp2
      go_round
      case rel => exact ⟨k + 1, by omega, by go_num, by rw [HT.out]⟩
      case measure => simp [intOf]; omega
    · obtain rfl : k = n := by omega
      have hc : reg (4294967295 - s) xs < 4294967296 := reg_lt HB.out (by omega)
      have HTK := Aside0.mk (show xs.take k = xs by rw [HN.out]; exact List.take_length)
      rw [HTK.out]
      go_wp2
      go_ret
      exact ⟨by rw [bits_not32 _ hc]; rfl, HL.out⟩
end Go.Proofs.Ytjblklejjemdhaa.Kcrc
