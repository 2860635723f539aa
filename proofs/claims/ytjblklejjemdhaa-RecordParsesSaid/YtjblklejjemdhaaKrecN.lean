/- RecordParses, walked. -/
import Derived.Test.YtjblklejjemdhaaKrecM
namespace Go.Proofs.Ytjblklejjemdhaa.Krec
set_option linter.unusedVariables false
set_option linter.unusedSimpArgs false
open Go.RowKit Go.Proofs.YtjblklejjemdhaaW.PrintWords Go.Proofs.YtjblklejjemdhaaW.PrintLast Go.Proofs.YtjblklejjemdhaaW.PrintMore Kbase Kcrc
theorem u8_range (n : Int) : 0 ≤ IntKind.u8.wrap n ∧ IntKind.u8.wrap n < 256 := by
  have : IntKind.u8.wrap n = n % 256 := by simp [IntKind.wrap, IntKind.bits, IntKind.signed]
  omega
theorem bytes_set {cs : List Int} (h : Bytes cs) (j : Nat) (x : Int) (hx : 0 ≤ x ∧ x < 256) : Bytes (cs.set j x) := fun n hn => by
  rcases List.mem_or_eq_of_mem_set hn with h' | h'
  · exact h n h'
  · rw [h']; omega
set_option maxHeartbeats 1000000 in
set_option maxRecDepth 100000 in
theorem law_parses_long (A : Option Addr) (n c : Nat) (t : Bool) (w : World) (hl : 400 < n) :
    Calls Try.prog 9 #[.slice A n c, .bool t] w fun e w' => e = .returned (.bool true) ∧ Below w.heap.size w w' := by
  go_enter Try.func9, Try.ntmps9
  go_wp2_with (fail)
  have HB := Aside0.mk (Below.refl w.heap.size w)
  refine (lives_c _).mono ?_
  rintro e w1 ⟨rfl, hb⟩
  have n0_ := Aside0.mk (below_then HB.out HB.out.size hb)
  clear HB
  have HB := n0_
  clear n0_ hb
  have hq : decide ((n : Int) > 400) = true := decide_eq_true (by omega)
  clear hl
  go_wp2_with (fail)
  refine (lives_c _).mono ?_
  rintro e w2 ⟨rfl, hb⟩
  have n0_ := Aside0.mk (below_then HB.out HB.out.size hb)
  clear HB
  have HB := n0_
  clear n0_ hb
  go_wp2
  go_ret
  exact ⟨rfl, HB.out⟩
/-- What the copy holds while the sum is put right. -/
def MendAt (W0 : World) (base g c5 : Nat) (v : Value) (wr : World) : Prop := ∃ k : Nat, k ≤ 4 ∧ v = .int .i64 (k : Int) ∧ Aside0 (∃ cs, cs.length = 160 ∧ Bytes cs ∧ (Kd.int .u8).R 5 wr base (fun _ => True) (.slice (some ⟨g, 0, none⟩) 160 c5) cs) ∧ Aside0 (Below W0.heap.size W0 wr)
set_option maxHeartbeats 4000000 in
set_option maxRecDepth 100000 in
theorem law_parses_short (A : Option Addr) (c : Nat) (xs : List Int) (t : Bool) (w : World) (hr : (Kd.int .u8).C w A xs.length xs) (hby : Bytes xs) (hl : xs.length ≤ 400) :
    Calls Try.prog 9 #[.slice A xs.length c, .bool t] w fun e w' => e = .returned (.bool true) ∧ Below w.heap.size w w' := by
  have HR := Aside0.mk hr
  have HBY := Aside0.mk hby
  clear hr hby
  go_enter Try.func9, Try.ntmps9
  go_wp2_with (fail)
  have HB := Aside0.mk (Below.refl w.heap.size w)
  refine (lives_c _).mono ?_
  rintro e w1 ⟨rfl, hb⟩
  have n0_ := Aside0.mk (below_then HB.out HB.out.size hb)
  clear HB
  have HB := n0_
  clear n0_ hb
  have hq : decide ((xs.length : Int) > 400) = false := decide_eq_false (by omega)
  have HL := Aside0.mk hl
  clear hl
  go_upto_region 4 with ((with_reducible refine gate_dst (N := 22) rfl ?_); at_builtin; refine Kd.R_append_rows (Kd.int .u8) (w0 := w1) w1.heap.size rfl (.tmp 20) (.tmp 21) 24 5 (.int .u8 0) 1 rfl Try.underlying24 info5 rfl (by decide) (by decide) (.slice (some ⟨w1.heap.size, 0, none⟩) 0 0) [] xs A xs.length c (fun _ => True) (fun _ => False) rfl rfl ?aO ?aR (fun _ _ h => h) (fun _ h => h.elim) (fun _ _ => trivial) ?aB ?aS ?aL ?_; (case aO => exact R_empty _ _ _ (Nat.le_refl _)); (case aR => exact Kd.C_alloc (Kd.C_below HR.out HB.out) _); (case aB => exact below_alloc (Below.refl _ _) _); (case aS => simp); (case aL => simp; have := HL.out; omega); intro v3 w3 ho hb hg hat; rw [List.nil_append] at ho; have HO := Aside0.mk ho; have HB3 := Aside0.mk hb; clear ho hb hg hat; obtain ⟨A5, c5, e5⟩ := Kd.R_slice HO.out; subst e5)
  clear hq
  have n0_ := Aside0.mk (below_then HB.out HB.out.size HB3.out)
  have HB1 := Aside0.mk HB.out.size
  clear HB HB3
  have HB := n0_
  clear n0_
  by_cases hm : t = true ∧ xs.length = 160
  · obtain ⟨rfl, h160⟩ := hm
    rw [h160] at HO
    rw [h160]
    obtain ⟨g, cap, e6, hg1, hg2⟩ := (Kd.own_of_R HO.out).form (by omega)
    injection e6 with e6 _ e7
    subst e6
    subst e7
    have HG := Aside0.mk (show w.heap.size ≤ g from Nat.le_trans HB1.out hg1)
    have H160 := Aside0.mk h160
    have hcx := (Kd.R_reads' HO.out).2.2
    rw [h160] at hcx
    have hc5 := (Kd.R_reads' HO.out).2.1
    clear hg1 hg2 h160
    have h156i : (156 : Int) ≤ (c5 : Int) := by omega
    go_wp2_with (fail)
    refine (ref_sum_of (some ⟨g, 0, none⟩) 156 c5 (xs.take 156) _ (by rw [List.length_take, H160.out]; rfl) (C_take hcx 156 (by decide)) (fun n hn => HBY.out n (List.mem_of_mem_take hn))).mono ?_
    rintro e w4 ⟨rfl, hb⟩
    have HO4 := Aside0.mk (Kd.R_below HO.out hb)
    have n0_ := Aside0.mk (below_then HB.out HB.out.size hb)
    clear HB hb HO hcx
    have HB := n0_
    clear n0_
    generalize rsum (xs.take 156) = u at *
    go_wp2_with (fail)
    go_loopw [32] (fun v wr => MendAt w w1.heap.size g c5 v wr) (fun v _ => 4 - (intOf v).toNat)
    case atStart => exact ⟨0, by omega, rfl, Aside0.mk ⟨xs, H160.out, HBY.out, HO4.out⟩, HB⟩
    case round =>
      clear HO4 HB
      obtain ⟨k, hk, rfl, HS, HB⟩ := hrel
      obtain ⟨cs, hcl, hcb, hco⟩ := HS.out
      have HCL := Aside0.mk hcl
      have HCB := Aside0.mk hcb
      have HO := Aside0.mk hco
      clear HS hcl hcb hco
      by_cases hlt : k < 4
      · have hcell : wr.cell? ⟨g, 156 + k, none⟩ = some (.int .u8 ((at_ cs (156 + k) : Nat) : Int)) := byte_at (Kd.R_reads' HO.out).2.2 HCB.out (156 + k) (by rw [HCL.out]; omega) (by rw [HCL.out]; omega)
        have hfree : wr.frozen? ⟨g, 156 + k, none⟩ = false := (own_at (k := .u8) (Kd.own_of_R (xs := cs) (by rw [HCL.out]; exact HO.out)) ((156 + k : Nat) : Int) (by have := HCL.out; omega) (by have := HCL.out; omega)).2
        rcases (show k = 0 ∨ k = 1 ∨ k = 2 ∨ k = 3 by omega) with rfl | rfl | rfl | rfl
        · go_wp2
          go_roundw
          case measure => simp [intOf]
          case rel => exact ⟨1, by omega, rfl, Aside0.mk ⟨_, by rw [List.length_set]; exact HCL.out, bytes_set HCB.out _ _ (u8_range _), Kd.R_putn HO.out (156 : Int) _⟩, Aside0.mk (HB.out.setCell (p := ⟨g, 156, none⟩) HG.out _)⟩
        · go_wp2
          go_roundw
          case measure => simp [intOf]
          case rel => exact ⟨2, by omega, rfl, Aside0.mk ⟨_, by rw [List.length_set]; exact HCL.out, bytes_set HCB.out _ _ (u8_range _), Kd.R_putn HO.out (157 : Int) _⟩, Aside0.mk (HB.out.setCell (p := ⟨g, 157, none⟩) HG.out _)⟩
        · go_wp2
          go_roundw
          case measure => simp [intOf]
          case rel => exact ⟨3, by omega, rfl, Aside0.mk ⟨_, by rw [List.length_set]; exact HCL.out, bytes_set HCB.out _ _ (u8_range _), Kd.R_putn HO.out (158 : Int) _⟩, Aside0.mk (HB.out.setCell (p := ⟨g, 158, none⟩) HG.out _)⟩
        · go_wp2
          go_roundw
          case measure => simp [intOf]
          case rel => exact ⟨4, by omega, rfl, Aside0.mk ⟨_, by rw [List.length_set]; exact HCL.out, bytes_set HCB.out _ _ (u8_range _), Kd.R_putn HO.out (159 : Int) _⟩, Aside0.mk (HB.out.setCell (p := ⟨g, 159, none⟩) HG.out _)⟩
      · obtain rfl : k = 4 := by omega
        have HO5 := Aside0.mk (show (Kd.int .u8).R 5 wr w1.heap.size (fun _ => True) (.slice (some ⟨g, 0, none⟩) cs.length c5) cs by rw [HCL.out]; exact HO.out)
        clear HO
        have HO := HO5
        clear HO5
        have HLN := Aside0.mk (show xs.length = cs.length from by have := HCL.out; have := H160.out; omega)
        have HC5 := Aside0.mk (show xs.length ≤ c5 from by have := (Kd.R_reads' HO.out).2.1; have := HCL.out; have := H160.out; omega)
        have hcc := (Kd.R_reads' HO.out).2.2
        rw [← HLN.out] at hcc
        have HCV := Aside0.mk hcc
        clear hcc
        go_wp2_with (fail)
        refine (parse_any (some ⟨g, 0, none⟩) (xs.length) (c5) cs _ HLN.out (fun _ => ⟨g, rfl⟩) HCV.out HCB.out HC5.out).mono ?_
        rintro e w11 ⟨hres, hb⟩
        have HB11 := Aside0.mk (below_then HB.out HB.out.size hb)
        have HCV11 := Aside0.mk (Kd.C_below HCV.out hb)
        have HZ11 := Aside0.mk (heap_alloc_new w11 (.cells zero37 37))
        clear HB hb HCV
        rcases hres with hres | hres
        · obtain ⟨A1, n1, c1, rfl, ho, hg⟩ := hres
          obtain rfl : n1 = (init cs).length := (Kd.R_reads' ho).1
          have HGD := Aside0.mk hg
          have HO11 := Aside0.mk ho
          clear ho hg
          go_upto_region 12 with (first | ((with_reducible refine gate_dst (N := 8) rfl ?_); refine alloc37 8 rfl rfl rfl ?_) | (refine wpList_store_row rfl 37 (.tmp 8) (.tmp 48) rfl w11.heap.size (recs (num cs 4) (num cs 8) (num cs 12) (num cs 16) (at_ cs 20) (num cs 24) (.slice A1 (init cs).length c1)) rfl rfl 37 zero37 HZ11.out (by kernel_rfl) rfl (recs_one _ _ _ _ _ _ A1 (init cs).length c1) ?_))
          have hbe := below_setRow (below_alloc (Below.refl w11.heap.size w11) (.cells zero37 37)) (Nat.le_refl w11.heap.size) (recs (num cs 4) (num cs 8) (num cs 12) (num cs 16) (at_ cs 20) (num cs 24) (.slice A1 (init cs).length c1))
          have HP12 := Aside0.mk (show ((w11.alloc (.cells zero37 37)).setRow w11.heap.size (recs (num cs 4) (num cs 8) (num cs 12) (num cs 16) (at_ cs 20) (num cs 24) (.slice A1 (init cs).length c1))).heap[w11.heap.size]? = some (.cells (recs (num cs 4) (num cs 8) (num cs 12) (num cs 16) (at_ cs 20) (num cs 24) (.slice A1 (init cs).length c1)) 37 (0, 0)) from setRow_heap _ _ _ _ _ _ HZ11.out)
          have HO12 := Aside0.mk (Kd.R_below HO11.out hbe)
          have HB12 := Aside0.mk (below_then HB11.out HB11.out.size hbe)
          have HCV12 := Aside0.mk (Kd.C_below HCV11.out hbe)
          clear hbe HZ11 HO11 HB11 HCV11
          generalize (w11.alloc (.cells zero37 37)).setRow w11.heap.size (recs (num cs 4) (num cs 8) (num cs 12) (num cs 16) (at_ cs 20) (num cs 24) (.slice A1 (init cs).length c1)) = w12 at *
          generalize w11.heap.size = P at *
          go_wp2_with (fail)
          refine (rparse_any (some ⟨g, 0, none⟩) (xs.length) (c5) cs _ HLN.out (fun _ => ⟨g, rfl⟩) HCV12.out HCB.out HC5.out).mono ?_
          rintro e w13 ⟨hres, hb⟩
          rcases hres with hres | hres
          · obtain ⟨A2, n2, c2, rfl, ho, _⟩ := hres
            obtain rfl : n2 = (init cs).length := (Kd.R_reads' ho).1
            have HO13 := Aside0.mk (Kd.R_below HO12.out hb)
            have HB13 := Aside0.mk (below_then HB12.out HB12.out.size hb)
            have HP13 := Aside0.mk ((hb.block P (blk_lt HP12.out)).trans HP12.out)
            have HV13 := Aside0.mk ho
            have HZ13 := Aside0.mk (heap_alloc_new w13 (.cells zero44 44))
            clear ho hb HO12 HB12 HCV12 HP12
            go_upto_region 13 with (first | ((with_reducible refine gate_dst (N := 10) rfl ?_); refine alloc44 10 rfl rfl rfl ?_) | (refine wpList_store_row rfl 44 (.tmp 10) (.tmp 53) rfl w13.heap.size (recr (num cs 4) (num cs 8) (num cs 12) (num cs 16) (at_ cs 20) (num cs 24) (.slice A2 (init cs).length c2)) rfl rfl 44 zero44 HZ13.out (by kernel_rfl) rfl (recr_one _ _ _ _ _ _ A2 (init cs).length c2) ?_))
            have hbe := below_setRow (below_alloc (Below.refl w13.heap.size w13) (.cells zero44 44)) (Nat.le_refl w13.heap.size) (recr (num cs 4) (num cs 8) (num cs 12) (num cs 16) (at_ cs 20) (num cs 24) (.slice A2 (init cs).length c2))
            have HQ14 := Aside0.mk (show ((w13.alloc (.cells zero44 44)).setRow w13.heap.size (recr (num cs 4) (num cs 8) (num cs 12) (num cs 16) (at_ cs 20) (num cs 24) (.slice A2 (init cs).length c2))).heap[w13.heap.size]? = some (.cells (recr (num cs 4) (num cs 8) (num cs 12) (num cs 16) (at_ cs 20) (num cs 24) (.slice A2 (init cs).length c2)) 44 (0, 0)) from setRow_heap _ _ _ _ _ _ HZ13.out)
            have HO14 := Aside0.mk (Kd.R_below HO13.out hbe)
            have HV14 := Aside0.mk (Kd.R_below HV13.out hbe)
            have HB14 := Aside0.mk (below_then HB13.out HB13.out.size hbe)
            have HP14 := Aside0.mk ((hbe.block P (blk_lt HP13.out)).trans HP13.out)
            clear hbe HZ13 HO13 HV13 HB13 HP13
            generalize (w13.alloc (.cells zero44 44)).setRow w13.heap.size (recr (num cs 4) (num cs 8) (num cs 12) (num cs 16) (at_ cs 20) (num cs 24) (.slice A2 (init cs).length c2)) = w14 at *
            generalize w13.heap.size = Q at *
            have hy0 : w14.cell? ⟨Q, 0, none⟩ = some (.int .u32 ((num cs 4 : Nat) : Int)) := cell_of_row w14 Q 0 _ 44 (0, 0) HQ14.out
            have hy1 : w14.cell? ⟨Q, 1, none⟩ = some (.int .u32 ((num cs 8 : Nat) : Int)) := cell_of_row w14 Q 1 _ 44 (0, 0) HQ14.out
            have hy2 : w14.cell? ⟨Q, 2, none⟩ = some (.int .u32 ((num cs 12 : Nat) : Int)) := cell_of_row w14 Q 2 _ 44 (0, 0) HQ14.out
            have hy3 : w14.cell? ⟨Q, 3, none⟩ = some (.int .u32 ((num cs 16 : Nat) : Int)) := cell_of_row w14 Q 3 _ 44 (0, 0) HQ14.out
            have hy4 : w14.cell? ⟨Q, 4, none⟩ = some (.int .u32 ((num cs 24 : Nat) : Int)) := cell_of_row w14 Q 4 _ 44 (0, 0) HQ14.out
            have hy5 : w14.cell? ⟨Q, 5, none⟩ = some (.int .u8 ((at_ cs 20 : Nat) : Int)) := cell_of_row w14 Q 5 _ 44 (0, 0) HQ14.out
            have hy6 : w14.cell? ⟨Q, 6, none⟩ = some (.slice A2 (init cs).length c2) := cell_of_row w14 Q 6 _ 44 (0, 0) HQ14.out
            go_wp2_with ((with_reducible refine gate_dst (N := 69) rfl ?_); refine gate_guard (by rfl) ?_; refine wpList_load_row rfl 37 (.tmp 8) rfl P rfl 37 (recs (num cs 4) (num cs 8) (num cs 12) (num cs 16) (at_ cs 20) (num cs 24) (.slice A1 (init cs).length c1)) (0, 0) _ HP14.out Try.underlying37 rfl (by kernel_rfl) ?_)
            refine (same_c (num cs 4) (num cs 8) (num cs 12) (num cs 16) (at_ cs 20) (num cs 24) A1 A2 (init cs).length (init cs).length c1 c2 (init cs) _ (Kd.R_reads' HO14.out).2.2 (Kd.R_reads' HV14.out).2.2).mono ?_
            rintro e w15 ⟨rfl, hb⟩
            go_wp2
            go_ret
            exact ⟨rfl, below_then HB14.out HB14.out.size hb⟩
          · exact absurd HGD.out hres.2
        · obtain ⟨rfl, hg⟩ := hres
          have HKC := Aside0.mk (show code cs ≠ 0 by unfold code; split <;> decide)
          have HGD := Aside0.mk hg
          clear hg
          go_upto_region 12 with (first | ((with_reducible refine gate_dst (N := 8) rfl ?_); refine alloc37 8 rfl rfl rfl ?_) | (refine wpList_store_row rfl 37 (.tmp 8) (.tmp 48) rfl w11.heap.size zero37 rfl rfl 37 zero37 HZ11.out (by kernel_rfl) rfl zero37_one ?_))
          have hbe := below_setRow (below_alloc (Below.refl w11.heap.size w11) (.cells zero37 37)) (Nat.le_refl w11.heap.size) zero37
          have HP12 := Aside0.mk (show ((w11.alloc (.cells zero37 37)).setRow w11.heap.size zero37).heap[w11.heap.size]? = some (.cells zero37 37 (0, 0)) from setRow_heap _ _ _ _ _ _ HZ11.out)
          have HB12 := Aside0.mk (below_then HB11.out HB11.out.size hbe)
          have HCV12 := Aside0.mk (Kd.C_below HCV11.out hbe)
          clear hbe HZ11 HB11 HCV11
          generalize (w11.alloc (.cells zero37 37)).setRow w11.heap.size zero37 = w12 at *
          generalize w11.heap.size = P at *
          go_wp2_with (fail)
          refine (rparse_any (some ⟨g, 0, none⟩) (xs.length) (c5) cs _ HLN.out (fun _ => ⟨g, rfl⟩) HCV12.out HCB.out HC5.out).mono ?_
          rintro e w13 ⟨hres, hb⟩
          rcases hres with hres | hres
          · obtain ⟨_, _, _, _, _, hg⟩ := hres
            exact absurd hg HGD.out
          · obtain ⟨rfl, _⟩ := hres
            have HB13 := Aside0.mk (below_then HB12.out HB12.out.size hb)
            have HP13 := Aside0.mk ((hb.block P (blk_lt HP12.out)).trans HP12.out)
            have HZ13 := Aside0.mk (heap_alloc_new w13 (.cells zero44 44))
            clear hb HB12 HCV12 HP12
            go_upto_region 13 with (first | ((with_reducible refine gate_dst (N := 10) rfl ?_); refine alloc44 10 rfl rfl rfl ?_) | (refine wpList_store_row rfl 44 (.tmp 10) (.tmp 53) rfl w13.heap.size zero44 rfl rfl 44 zero44 HZ13.out (by kernel_rfl) rfl zero44_one ?_))
            have hbe := below_setRow (below_alloc (Below.refl w13.heap.size w13) (.cells zero44 44)) (Nat.le_refl w13.heap.size) zero44
            have HB14 := Aside0.mk (below_then HB13.out HB13.out.size hbe)
            have HP14 := Aside0.mk ((hbe.block P (blk_lt HP13.out)).trans HP13.out)
            clear hbe HZ13 HB13 HP13
            generalize (w13.alloc (.cells zero44 44)).setRow w13.heap.size zero44 = w14 at *
            generalize code cs = kc at *
            have hkc : (((kc : Nat) : Int) != 0) = true := by rw [bne_iff_ne]; have := HKC.out; omega
            go_wp2_with ((with_reducible refine gate_dst (N := 61) rfl ?_); refine gate_guard (by rfl) ?_; refine wpList_load_row rfl 37 (.tmp 8) rfl P rfl 37 (zero37) (0, 0) _ HP14.out Try.underlying37 rfl (by kernel_rfl) ?_)
            refine (same_c 0 0 0 0 0 0 none none 0 0 0 0 [] _ ⟨rfl, by decide, fun h => absurd h (by decide)⟩ ⟨rfl, by decide, fun h => absurd h (by decide)⟩).mono ?_
            rintro e w15 ⟨rfl, hb⟩
            go_wp2
            go_ret
            exact ⟨rfl, below_then HB14.out HB14.out.size hb⟩

  · obtain ⟨cs, hcs⟩ : ∃ cs, cs = xs := ⟨_, rfl⟩
    subst hcs
    have HCL := Aside0.mk (show cs.length = cs.length from rfl)
    have HCB := HBY
    cases t with
    | false =>
      have HLN := Aside0.mk (show cs.length = cs.length from by have := HCL.out; omega)
      have HA5 := Aside0.mk (fun h160 : cs.length = 160 => show ∃ g, A5 = some ⟨g, 0, none⟩ from by
        obtain ⟨g, cap, e6, _, _⟩ := (Kd.own_of_R HO.out).form (by have := HCL.out; omega)
        injection e6 with e6 _ _
        exact ⟨g, e6⟩)
      have HC5 := Aside0.mk (show cs.length ≤ c5 from by have := (Kd.R_reads' HO.out).2.1; have := HCL.out; omega)
      have hcc := (Kd.R_reads' HO.out).2.2
      have HCV := Aside0.mk hcc
      clear hcc
      go_wp2_with (fail)
      refine (parse_any (A5) (cs.length) (c5) cs _ rfl HA5.out HCV.out HCB.out HC5.out).mono ?_
      rintro e w11 ⟨hres, hb⟩
      have HB11 := Aside0.mk (below_then HB.out HB.out.size hb)
      have HCV11 := Aside0.mk (Kd.C_below HCV.out hb)
      have HZ11 := Aside0.mk (heap_alloc_new w11 (.cells zero37 37))
      clear HB hb HCV
      rcases hres with hres | hres
      · obtain ⟨A1, n1, c1, rfl, ho, hg⟩ := hres
        obtain rfl : n1 = (init cs).length := (Kd.R_reads' ho).1
        have HGD := Aside0.mk hg
        have HO11 := Aside0.mk ho
        clear ho hg
        go_upto_region 12 with (first | ((with_reducible refine gate_dst (N := 8) rfl ?_); refine alloc37 8 rfl rfl rfl ?_) | (refine wpList_store_row rfl 37 (.tmp 8) (.tmp 48) rfl w11.heap.size (recs (num cs 4) (num cs 8) (num cs 12) (num cs 16) (at_ cs 20) (num cs 24) (.slice A1 (init cs).length c1)) rfl rfl 37 zero37 HZ11.out (by kernel_rfl) rfl (recs_one _ _ _ _ _ _ A1 (init cs).length c1) ?_))
        have hbe := below_setRow (below_alloc (Below.refl w11.heap.size w11) (.cells zero37 37)) (Nat.le_refl w11.heap.size) (recs (num cs 4) (num cs 8) (num cs 12) (num cs 16) (at_ cs 20) (num cs 24) (.slice A1 (init cs).length c1))
        have HP12 := Aside0.mk (show ((w11.alloc (.cells zero37 37)).setRow w11.heap.size (recs (num cs 4) (num cs 8) (num cs 12) (num cs 16) (at_ cs 20) (num cs 24) (.slice A1 (init cs).length c1))).heap[w11.heap.size]? = some (.cells (recs (num cs 4) (num cs 8) (num cs 12) (num cs 16) (at_ cs 20) (num cs 24) (.slice A1 (init cs).length c1)) 37 (0, 0)) from setRow_heap _ _ _ _ _ _ HZ11.out)
        have HO12 := Aside0.mk (Kd.R_below HO11.out hbe)
        have HB12 := Aside0.mk (below_then HB11.out HB11.out.size hbe)
        have HCV12 := Aside0.mk (Kd.C_below HCV11.out hbe)
        clear hbe HZ11 HO11 HB11 HCV11
        generalize (w11.alloc (.cells zero37 37)).setRow w11.heap.size (recs (num cs 4) (num cs 8) (num cs 12) (num cs 16) (at_ cs 20) (num cs 24) (.slice A1 (init cs).length c1)) = w12 at *
        generalize w11.heap.size = P at *
        go_wp2_with (fail)
        refine (rparse_any (A5) (cs.length) (c5) cs _ rfl HA5.out HCV12.out HCB.out HC5.out).mono ?_
        rintro e w13 ⟨hres, hb⟩
        rcases hres with hres | hres
        · obtain ⟨A2, n2, c2, rfl, ho, _⟩ := hres
          obtain rfl : n2 = (init cs).length := (Kd.R_reads' ho).1
          have HO13 := Aside0.mk (Kd.R_below HO12.out hb)
          have HB13 := Aside0.mk (below_then HB12.out HB12.out.size hb)
          have HP13 := Aside0.mk ((hb.block P (blk_lt HP12.out)).trans HP12.out)
          have HV13 := Aside0.mk ho
          have HZ13 := Aside0.mk (heap_alloc_new w13 (.cells zero44 44))
          clear ho hb HO12 HB12 HCV12 HP12
          go_upto_region 13 with (first | ((with_reducible refine gate_dst (N := 10) rfl ?_); refine alloc44 10 rfl rfl rfl ?_) | (refine wpList_store_row rfl 44 (.tmp 10) (.tmp 53) rfl w13.heap.size (recr (num cs 4) (num cs 8) (num cs 12) (num cs 16) (at_ cs 20) (num cs 24) (.slice A2 (init cs).length c2)) rfl rfl 44 zero44 HZ13.out (by kernel_rfl) rfl (recr_one _ _ _ _ _ _ A2 (init cs).length c2) ?_))
          have hbe := below_setRow (below_alloc (Below.refl w13.heap.size w13) (.cells zero44 44)) (Nat.le_refl w13.heap.size) (recr (num cs 4) (num cs 8) (num cs 12) (num cs 16) (at_ cs 20) (num cs 24) (.slice A2 (init cs).length c2))
          have HQ14 := Aside0.mk (show ((w13.alloc (.cells zero44 44)).setRow w13.heap.size (recr (num cs 4) (num cs 8) (num cs 12) (num cs 16) (at_ cs 20) (num cs 24) (.slice A2 (init cs).length c2))).heap[w13.heap.size]? = some (.cells (recr (num cs 4) (num cs 8) (num cs 12) (num cs 16) (at_ cs 20) (num cs 24) (.slice A2 (init cs).length c2)) 44 (0, 0)) from setRow_heap _ _ _ _ _ _ HZ13.out)
          have HO14 := Aside0.mk (Kd.R_below HO13.out hbe)
          have HV14 := Aside0.mk (Kd.R_below HV13.out hbe)
          have HB14 := Aside0.mk (below_then HB13.out HB13.out.size hbe)
          have HP14 := Aside0.mk ((hbe.block P (blk_lt HP13.out)).trans HP13.out)
          clear hbe HZ13 HO13 HV13 HB13 HP13
          generalize (w13.alloc (.cells zero44 44)).setRow w13.heap.size (recr (num cs 4) (num cs 8) (num cs 12) (num cs 16) (at_ cs 20) (num cs 24) (.slice A2 (init cs).length c2)) = w14 at *
          generalize w13.heap.size = Q at *
          have hy0 : w14.cell? ⟨Q, 0, none⟩ = some (.int .u32 ((num cs 4 : Nat) : Int)) := cell_of_row w14 Q 0 _ 44 (0, 0) HQ14.out
          have hy1 : w14.cell? ⟨Q, 1, none⟩ = some (.int .u32 ((num cs 8 : Nat) : Int)) := cell_of_row w14 Q 1 _ 44 (0, 0) HQ14.out
          have hy2 : w14.cell? ⟨Q, 2, none⟩ = some (.int .u32 ((num cs 12 : Nat) : Int)) := cell_of_row w14 Q 2 _ 44 (0, 0) HQ14.out
          have hy3 : w14.cell? ⟨Q, 3, none⟩ = some (.int .u32 ((num cs 16 : Nat) : Int)) := cell_of_row w14 Q 3 _ 44 (0, 0) HQ14.out
          have hy4 : w14.cell? ⟨Q, 4, none⟩ = some (.int .u32 ((num cs 24 : Nat) : Int)) := cell_of_row w14 Q 4 _ 44 (0, 0) HQ14.out
          have hy5 : w14.cell? ⟨Q, 5, none⟩ = some (.int .u8 ((at_ cs 20 : Nat) : Int)) := cell_of_row w14 Q 5 _ 44 (0, 0) HQ14.out
          have hy6 : w14.cell? ⟨Q, 6, none⟩ = some (.slice A2 (init cs).length c2) := cell_of_row w14 Q 6 _ 44 (0, 0) HQ14.out
          go_wp2_with ((with_reducible refine gate_dst (N := 69) rfl ?_); refine gate_guard (by rfl) ?_; refine wpList_load_row rfl 37 (.tmp 8) rfl P rfl 37 (recs (num cs 4) (num cs 8) (num cs 12) (num cs 16) (at_ cs 20) (num cs 24) (.slice A1 (init cs).length c1)) (0, 0) _ HP14.out Try.underlying37 rfl (by kernel_rfl) ?_)
          refine (same_c (num cs 4) (num cs 8) (num cs 12) (num cs 16) (at_ cs 20) (num cs 24) A1 A2 (init cs).length (init cs).length c1 c2 (init cs) _ (Kd.R_reads' HO14.out).2.2 (Kd.R_reads' HV14.out).2.2).mono ?_
          rintro e w15 ⟨rfl, hb⟩
          go_wp2
          go_ret
          exact ⟨rfl, below_then HB14.out HB14.out.size hb⟩
        · exact absurd HGD.out hres.2
      · obtain ⟨rfl, hg⟩ := hres
        have HKC := Aside0.mk (show code cs ≠ 0 by unfold code; split <;> decide)
        have HGD := Aside0.mk hg
        clear hg
        go_upto_region 12 with (first | ((with_reducible refine gate_dst (N := 8) rfl ?_); refine alloc37 8 rfl rfl rfl ?_) | (refine wpList_store_row rfl 37 (.tmp 8) (.tmp 48) rfl w11.heap.size zero37 rfl rfl 37 zero37 HZ11.out (by kernel_rfl) rfl zero37_one ?_))
        have hbe := below_setRow (below_alloc (Below.refl w11.heap.size w11) (.cells zero37 37)) (Nat.le_refl w11.heap.size) zero37
        have HP12 := Aside0.mk (show ((w11.alloc (.cells zero37 37)).setRow w11.heap.size zero37).heap[w11.heap.size]? = some (.cells zero37 37 (0, 0)) from setRow_heap _ _ _ _ _ _ HZ11.out)
        have HB12 := Aside0.mk (below_then HB11.out HB11.out.size hbe)
        have HCV12 := Aside0.mk (Kd.C_below HCV11.out hbe)
        clear hbe HZ11 HB11 HCV11
        generalize (w11.alloc (.cells zero37 37)).setRow w11.heap.size zero37 = w12 at *
        generalize w11.heap.size = P at *
        go_wp2_with (fail)
        refine (rparse_any (A5) (cs.length) (c5) cs _ rfl HA5.out HCV12.out HCB.out HC5.out).mono ?_
        rintro e w13 ⟨hres, hb⟩
        rcases hres with hres | hres
        · obtain ⟨_, _, _, _, _, hg⟩ := hres
          exact absurd hg HGD.out
        · obtain ⟨rfl, _⟩ := hres
          have HB13 := Aside0.mk (below_then HB12.out HB12.out.size hb)
          have HP13 := Aside0.mk ((hb.block P (blk_lt HP12.out)).trans HP12.out)
          have HZ13 := Aside0.mk (heap_alloc_new w13 (.cells zero44 44))
          clear hb HB12 HCV12 HP12
          go_upto_region 13 with (first | ((with_reducible refine gate_dst (N := 10) rfl ?_); refine alloc44 10 rfl rfl rfl ?_) | (refine wpList_store_row rfl 44 (.tmp 10) (.tmp 53) rfl w13.heap.size zero44 rfl rfl 44 zero44 HZ13.out (by kernel_rfl) rfl zero44_one ?_))
          have hbe := below_setRow (below_alloc (Below.refl w13.heap.size w13) (.cells zero44 44)) (Nat.le_refl w13.heap.size) zero44
          have HB14 := Aside0.mk (below_then HB13.out HB13.out.size hbe)
          have HP14 := Aside0.mk ((hbe.block P (blk_lt HP13.out)).trans HP13.out)
          clear hbe HZ13 HB13 HP13
          generalize (w13.alloc (.cells zero44 44)).setRow w13.heap.size zero44 = w14 at *
          generalize code cs = kc at *
          have hkc : (((kc : Nat) : Int) != 0) = true := by rw [bne_iff_ne]; have := HKC.out; omega
          go_wp2_with ((with_reducible refine gate_dst (N := 61) rfl ?_); refine gate_guard (by rfl) ?_; refine wpList_load_row rfl 37 (.tmp 8) rfl P rfl 37 (zero37) (0, 0) _ HP14.out Try.underlying37 rfl (by kernel_rfl) ?_)
          refine (same_c 0 0 0 0 0 0 none none 0 0 0 0 [] _ ⟨rfl, by decide, fun h => absurd h (by decide)⟩ ⟨rfl, by decide, fun h => absurd h (by decide)⟩).mono ?_
          rintro e w15 ⟨rfl, hb⟩
          go_wp2
          go_ret
          exact ⟨rfl, below_then HB14.out HB14.out.size hb⟩

    | true =>
      have hq : ((cs.length : Int) == 160) = false := beq_eq_false_iff_ne.2 (fun h => hm ⟨rfl, by omega⟩)
      clear hm
      have HLN := Aside0.mk (show cs.length = cs.length from by have := HCL.out; omega)
      have HA5 := Aside0.mk (fun h160 : cs.length = 160 => show ∃ g, A5 = some ⟨g, 0, none⟩ from by
        obtain ⟨g, cap, e6, _, _⟩ := (Kd.own_of_R HO.out).form (by have := HCL.out; omega)
        injection e6 with e6 _ _
        exact ⟨g, e6⟩)
      have HC5 := Aside0.mk (show cs.length ≤ c5 from by have := (Kd.R_reads' HO.out).2.1; have := HCL.out; omega)
      have hcc := (Kd.R_reads' HO.out).2.2
      have HCV := Aside0.mk hcc
      clear hcc
      go_wp2_with (fail)
      refine (parse_any (A5) (cs.length) (c5) cs _ rfl HA5.out HCV.out HCB.out HC5.out).mono ?_
      rintro e w11 ⟨hres, hb⟩
      have HB11 := Aside0.mk (below_then HB.out HB.out.size hb)
      have HCV11 := Aside0.mk (Kd.C_below HCV.out hb)
      have HZ11 := Aside0.mk (heap_alloc_new w11 (.cells zero37 37))
      clear HB hb HCV
      rcases hres with hres | hres
      · obtain ⟨A1, n1, c1, rfl, ho, hg⟩ := hres
        obtain rfl : n1 = (init cs).length := (Kd.R_reads' ho).1
        have HGD := Aside0.mk hg
        have HO11 := Aside0.mk ho
        clear ho hg
        go_upto_region 12 with (first | ((with_reducible refine gate_dst (N := 8) rfl ?_); refine alloc37 8 rfl rfl rfl ?_) | (refine wpList_store_row rfl 37 (.tmp 8) (.tmp 48) rfl w11.heap.size (recs (num cs 4) (num cs 8) (num cs 12) (num cs 16) (at_ cs 20) (num cs 24) (.slice A1 (init cs).length c1)) rfl rfl 37 zero37 HZ11.out (by kernel_rfl) rfl (recs_one _ _ _ _ _ _ A1 (init cs).length c1) ?_))
        have hbe := below_setRow (below_alloc (Below.refl w11.heap.size w11) (.cells zero37 37)) (Nat.le_refl w11.heap.size) (recs (num cs 4) (num cs 8) (num cs 12) (num cs 16) (at_ cs 20) (num cs 24) (.slice A1 (init cs).length c1))
        have HP12 := Aside0.mk (show ((w11.alloc (.cells zero37 37)).setRow w11.heap.size (recs (num cs 4) (num cs 8) (num cs 12) (num cs 16) (at_ cs 20) (num cs 24) (.slice A1 (init cs).length c1))).heap[w11.heap.size]? = some (.cells (recs (num cs 4) (num cs 8) (num cs 12) (num cs 16) (at_ cs 20) (num cs 24) (.slice A1 (init cs).length c1)) 37 (0, 0)) from setRow_heap _ _ _ _ _ _ HZ11.out)
        have HO12 := Aside0.mk (Kd.R_below HO11.out hbe)
        have HB12 := Aside0.mk (below_then HB11.out HB11.out.size hbe)
        have HCV12 := Aside0.mk (Kd.C_below HCV11.out hbe)
        clear hbe HZ11 HO11 HB11 HCV11
        generalize (w11.alloc (.cells zero37 37)).setRow w11.heap.size (recs (num cs 4) (num cs 8) (num cs 12) (num cs 16) (at_ cs 20) (num cs 24) (.slice A1 (init cs).length c1)) = w12 at *
        generalize w11.heap.size = P at *
        go_wp2_with (fail)
        refine (rparse_any (A5) (cs.length) (c5) cs _ rfl HA5.out HCV12.out HCB.out HC5.out).mono ?_
        rintro e w13 ⟨hres, hb⟩
        rcases hres with hres | hres
        · obtain ⟨A2, n2, c2, rfl, ho, _⟩ := hres
          obtain rfl : n2 = (init cs).length := (Kd.R_reads' ho).1
          have HO13 := Aside0.mk (Kd.R_below HO12.out hb)
          have HB13 := Aside0.mk (below_then HB12.out HB12.out.size hb)
          have HP13 := Aside0.mk ((hb.block P (blk_lt HP12.out)).trans HP12.out)
          have HV13 := Aside0.mk ho
          have HZ13 := Aside0.mk (heap_alloc_new w13 (.cells zero44 44))
          clear ho hb HO12 HB12 HCV12 HP12
          go_upto_region 13 with (first | ((with_reducible refine gate_dst (N := 10) rfl ?_); refine alloc44 10 rfl rfl rfl ?_) | (refine wpList_store_row rfl 44 (.tmp 10) (.tmp 53) rfl w13.heap.size (recr (num cs 4) (num cs 8) (num cs 12) (num cs 16) (at_ cs 20) (num cs 24) (.slice A2 (init cs).length c2)) rfl rfl 44 zero44 HZ13.out (by kernel_rfl) rfl (recr_one _ _ _ _ _ _ A2 (init cs).length c2) ?_))
          have hbe := below_setRow (below_alloc (Below.refl w13.heap.size w13) (.cells zero44 44)) (Nat.le_refl w13.heap.size) (recr (num cs 4) (num cs 8) (num cs 12) (num cs 16) (at_ cs 20) (num cs 24) (.slice A2 (init cs).length c2))
          have HQ14 := Aside0.mk (show ((w13.alloc (.cells zero44 44)).setRow w13.heap.size (recr (num cs 4) (num cs 8) (num cs 12) (num cs 16) (at_ cs 20) (num cs 24) (.slice A2 (init cs).length c2))).heap[w13.heap.size]? = some (.cells (recr (num cs 4) (num cs 8) (num cs 12) (num cs 16) (at_ cs 20) (num cs 24) (.slice A2 (init cs).length c2)) 44 (0, 0)) from setRow_heap _ _ _ _ _ _ HZ13.out)
          have HO14 := Aside0.mk (Kd.R_below HO13.out hbe)
          have HV14 := Aside0.mk (Kd.R_below HV13.out hbe)
          have HB14 := Aside0.mk (below_then HB13.out HB13.out.size hbe)
          have HP14 := Aside0.mk ((hbe.block P (blk_lt HP13.out)).trans HP13.out)
          clear hbe HZ13 HO13 HV13 HB13 HP13
          generalize (w13.alloc (.cells zero44 44)).setRow w13.heap.size (recr (num cs 4) (num cs 8) (num cs 12) (num cs 16) (at_ cs 20) (num cs 24) (.slice A2 (init cs).length c2)) = w14 at *
          generalize w13.heap.size = Q at *
          have hy0 : w14.cell? ⟨Q, 0, none⟩ = some (.int .u32 ((num cs 4 : Nat) : Int)) := cell_of_row w14 Q 0 _ 44 (0, 0) HQ14.out
          have hy1 : w14.cell? ⟨Q, 1, none⟩ = some (.int .u32 ((num cs 8 : Nat) : Int)) := cell_of_row w14 Q 1 _ 44 (0, 0) HQ14.out
          have hy2 : w14.cell? ⟨Q, 2, none⟩ = some (.int .u32 ((num cs 12 : Nat) : Int)) := cell_of_row w14 Q 2 _ 44 (0, 0) HQ14.out
          have hy3 : w14.cell? ⟨Q, 3, none⟩ = some (.int .u32 ((num cs 16 : Nat) : Int)) := cell_of_row w14 Q 3 _ 44 (0, 0) HQ14.out
          have hy4 : w14.cell? ⟨Q, 4, none⟩ = some (.int .u32 ((num cs 24 : Nat) : Int)) := cell_of_row w14 Q 4 _ 44 (0, 0) HQ14.out
          have hy5 : w14.cell? ⟨Q, 5, none⟩ = some (.int .u8 ((at_ cs 20 : Nat) : Int)) := cell_of_row w14 Q 5 _ 44 (0, 0) HQ14.out
          have hy6 : w14.cell? ⟨Q, 6, none⟩ = some (.slice A2 (init cs).length c2) := cell_of_row w14 Q 6 _ 44 (0, 0) HQ14.out
          go_wp2_with ((with_reducible refine gate_dst (N := 69) rfl ?_); refine gate_guard (by rfl) ?_; refine wpList_load_row rfl 37 (.tmp 8) rfl P rfl 37 (recs (num cs 4) (num cs 8) (num cs 12) (num cs 16) (at_ cs 20) (num cs 24) (.slice A1 (init cs).length c1)) (0, 0) _ HP14.out Try.underlying37 rfl (by kernel_rfl) ?_)
          refine (same_c (num cs 4) (num cs 8) (num cs 12) (num cs 16) (at_ cs 20) (num cs 24) A1 A2 (init cs).length (init cs).length c1 c2 (init cs) _ (Kd.R_reads' HO14.out).2.2 (Kd.R_reads' HV14.out).2.2).mono ?_
          rintro e w15 ⟨rfl, hb⟩
          go_wp2
          go_ret
          exact ⟨rfl, below_then HB14.out HB14.out.size hb⟩
        · exact absurd HGD.out hres.2
      · obtain ⟨rfl, hg⟩ := hres
        have HKC := Aside0.mk (show code cs ≠ 0 by unfold code; split <;> decide)
        have HGD := Aside0.mk hg
        clear hg
        go_upto_region 12 with (first | ((with_reducible refine gate_dst (N := 8) rfl ?_); refine alloc37 8 rfl rfl rfl ?_) | (refine wpList_store_row rfl 37 (.tmp 8) (.tmp 48) rfl w11.heap.size zero37 rfl rfl 37 zero37 HZ11.out (by kernel_rfl) rfl zero37_one ?_))
        have hbe := below_setRow (below_alloc (Below.refl w11.heap.size w11) (.cells zero37 37)) (Nat.le_refl w11.heap.size) zero37
        have HP12 := Aside0.mk (show ((w11.alloc (.cells zero37 37)).setRow w11.heap.size zero37).heap[w11.heap.size]? = some (.cells zero37 37 (0, 0)) from setRow_heap _ _ _ _ _ _ HZ11.out)
        have HB12 := Aside0.mk (below_then HB11.out HB11.out.size hbe)
        have HCV12 := Aside0.mk (Kd.C_below HCV11.out hbe)
        clear hbe HZ11 HB11 HCV11
        generalize (w11.alloc (.cells zero37 37)).setRow w11.heap.size zero37 = w12 at *
        generalize w11.heap.size = P at *
        go_wp2_with (fail)
        refine (rparse_any (A5) (cs.length) (c5) cs _ rfl HA5.out HCV12.out HCB.out HC5.out).mono ?_
        rintro e w13 ⟨hres, hb⟩
        rcases hres with hres | hres
        · obtain ⟨_, _, _, _, _, hg⟩ := hres
          exact absurd hg HGD.out
        · obtain ⟨rfl, _⟩ := hres
          have HB13 := Aside0.mk (below_then HB12.out HB12.out.size hb)
          have HP13 := Aside0.mk ((hb.block P (blk_lt HP12.out)).trans HP12.out)
          have HZ13 := Aside0.mk (heap_alloc_new w13 (.cells zero44 44))
          clear hb HB12 HCV12 HP12
          go_upto_region 13 with (first | ((with_reducible refine gate_dst (N := 10) rfl ?_); refine alloc44 10 rfl rfl rfl ?_) | (refine wpList_store_row rfl 44 (.tmp 10) (.tmp 53) rfl w13.heap.size zero44 rfl rfl 44 zero44 HZ13.out (by kernel_rfl) rfl zero44_one ?_))
          have hbe := below_setRow (below_alloc (Below.refl w13.heap.size w13) (.cells zero44 44)) (Nat.le_refl w13.heap.size) zero44
          have HB14 := Aside0.mk (below_then HB13.out HB13.out.size hbe)
          have HP14 := Aside0.mk ((hbe.block P (blk_lt HP13.out)).trans HP13.out)
          clear hbe HZ13 HB13 HP13
          generalize (w13.alloc (.cells zero44 44)).setRow w13.heap.size zero44 = w14 at *
          generalize code cs = kc at *
          have hkc : (((kc : Nat) : Int) != 0) = true := by rw [bne_iff_ne]; have := HKC.out; omega
          go_wp2_with ((with_reducible refine gate_dst (N := 61) rfl ?_); refine gate_guard (by rfl) ?_; refine wpList_load_row rfl 37 (.tmp 8) rfl P rfl 37 (zero37) (0, 0) _ HP14.out Try.underlying37 rfl (by kernel_rfl) ?_)
          refine (same_c 0 0 0 0 0 0 none none 0 0 0 0 [] _ ⟨rfl, by decide, fun h => absurd h (by decide)⟩ ⟨rfl, by decide, fun h => absurd h (by decide)⟩).mono ?_
          rintro e w15 ⟨rfl, hb⟩
          go_wp2
          go_ret
          exact ⟨rfl, below_then HB14.out HB14.out.size hb⟩

theorem law_parses (A : Option Addr) (c : Nat) (xs : List Int) (t : Bool) (w : World) (hr : (Kd.int .u8).C w A xs.length xs) (hby : Bytes xs) :
    Calls Try.prog 9 #[.slice A xs.length c, .bool t] w fun e w' => e = .returned (.bool true) ∧ Below w.heap.size w w' := by
  by_cases h : xs.length ≤ 400
  · exact law_parses_short A c xs t w hr hby h
  · exact law_parses_long A xs.length c t w (by omega)
end Go.Proofs.Ytjblklejjemdhaa.Krec
