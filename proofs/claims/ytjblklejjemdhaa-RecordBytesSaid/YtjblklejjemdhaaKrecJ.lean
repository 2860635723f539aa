/- RecordBytes, walked. -/
import Derived.Test.YtjblklejjemdhaaKrecI
namespace Go.Proofs.Ytjblklejjemdhaa.Krec
set_option linter.unusedVariables false
set_option linter.unusedSimpArgs false
open Go.RowKit Go.Proofs.YtjblklejjemdhaaW.PrintWords Go.Proofs.YtjblklejjemdhaaW.PrintLast Go.Proofs.YtjblklejjemdhaaW.PrintMore Kbase Kcrc
set_option maxHeartbeats 1000000 in
set_option maxRecDepth 100000 in
theorem law_bytes_long (s f b m p d : Nat) (A : Option Addr) (n c : Nat) (k : Int) (w : World) (hl : 300 < n) :
    Calls Try.prog 8 #[.agg #[.int .u32 (s : Int), .int .u32 (f : Int), .int .u32 (b : Int), .int .u32 (m : Int), .int .u8 (p : Int), .int .u32 (d : Int), .slice A n c], .int .i64 k] w fun e w' => e = .returned (.bool true) ∧ Below w.heap.size w w' := by
  have HX0 := Aside0.mk (heap_alloc_new w (.cells #[.int .u32 (s : Int), .int .u32 (f : Int), .int .u32 (b : Int), .int .u32 (m : Int), .int .u8 (p : Int), .int .u32 (d : Int), .slice A n c] 37))
  have HLT := Aside0.mk (show w.heap.size < (w.alloc (.cells #[.int .u32 (s : Int), .int .u32 (f : Int), .int .u32 (b : Int), .int .u32 (m : Int), .int .u8 (p : Int), .int .u32 (d : Int), .slice A n c] 37)).heap.size by simp)
  have HW0 := Aside0.mk (below_alloc (Below.refl w.heap.size w) (.cells #[.int .u32 (s : Int), .int .u32 (f : Int), .int .u32 (b : Int), .int .u32 (m : Int), .int .u8 (p : Int), .int .u32 (d : Int), .slice A n c] 37))
  go_enter Try.func8, Try.ntmps8
  go_wp2_with (fail)
  generalize w.alloc (.cells #[.int .u32 (s : Int), .int .u32 (f : Int), .int .u32 (b : Int), .int .u32 (m : Int), .int .u8 (p : Int), .int .u32 (d : Int), .slice A n c] 37) = W0 at *
  have HB := Aside0.mk (Below.refl W0.heap.size W0)
  refine (lives_c _).mono ?_
  rintro e w1 ⟨rfl, hb⟩
  have n0_ := Aside0.mk (below_then HB.out HB.out.size hb)
  clear HB
  have HB := n0_
  clear n0_ hb
  have HX1 := Aside0.mk ((HB.out.block w.heap.size HLT.out).trans HX0.out)
  have hx6 : w1.cell? ⟨w.heap.size, 6, none⟩ = some (.slice A n c) := cell_of_row w1 w.heap.size 6 _ 37 (0, 0) HX1.out
  have hq : decide ((n : Int) > 300) = true := decide_eq_true (by omega)
  clear hl
  go_wp2_with (fail)
  refine (lives_c _).mono ?_
  rintro e w2 ⟨rfl, hb⟩
  have n0_ := Aside0.mk (below_then HB.out HB.out.size hb)
  clear HB
  have HB := n0_
  clear n0_ hb
  go_wp2
  go_ret
  exact ⟨rfl, below_step HW0.out HB.out⟩
set_option maxHeartbeats 8000000 in
set_option maxRecDepth 100000 in
theorem law_bytes_short (s f b m p d : Nat) (A : Option Addr) (c : Nat) (xs : List Int) (k : Int) (w : World) (hs : s < 4294967296) (hf : f < 4294967296) (hb : b < 4294967296) (hm : m < 4294967296) (hp : p < 256) (hd : d < 4294967296) (hr : (Kd.int .u8).C w A xs.length xs) (hc : xs.length ≤ c) (hby : Bytes xs) (hk : (Lit.int .i64 k).wf = true) (hl : xs.length ≤ 300) :
    Calls Try.prog 8 #[.agg #[.int .u32 (s : Int), .int .u32 (f : Int), .int .u32 (b : Int), .int .u32 (m : Int), .int .u8 (p : Int), .int .u32 (d : Int), .slice A xs.length c], .int .i64 k] w fun e w' => e = .returned (.bool true) ∧ Below w.heap.size w w' := by
  have HR := Aside0.mk hr
  have HC := Aside0.mk hc
  have HBY := Aside0.mk hby
  have HK := Aside0.mk hk
  have HN6 := Aside0.mk (And.intro hs (And.intro hf (And.intro hb (And.intro hm (And.intro hp hd)))))
  clear hr hc hby hk hs hf hb hm hp hd
  have HX0 := Aside0.mk (heap_alloc_new w (.cells #[.int .u32 (s : Int), .int .u32 (f : Int), .int .u32 (b : Int), .int .u32 (m : Int), .int .u8 (p : Int), .int .u32 (d : Int), .slice A xs.length c] 37))
  have HLT := Aside0.mk (show w.heap.size < (w.alloc (.cells #[.int .u32 (s : Int), .int .u32 (f : Int), .int .u32 (b : Int), .int .u32 (m : Int), .int .u8 (p : Int), .int .u32 (d : Int), .slice A xs.length c] 37)).heap.size by simp)
  have HW0 := Aside0.mk (below_alloc (Below.refl w.heap.size w) (.cells #[.int .u32 (s : Int), .int .u32 (f : Int), .int .u32 (b : Int), .int .u32 (m : Int), .int .u8 (p : Int), .int .u32 (d : Int), .slice A xs.length c] 37))
  have HR0 := Aside0.mk (Kd.C_alloc HR.out (.cells #[.int .u32 (s : Int), .int .u32 (f : Int), .int .u32 (b : Int), .int .u32 (m : Int), .int .u8 (p : Int), .int .u32 (d : Int), .slice A xs.length c] 37))
  go_enter Try.func8, Try.ntmps8
  go_wp2_with (fail)
  generalize w.alloc (.cells #[.int .u32 (s : Int), .int .u32 (f : Int), .int .u32 (b : Int), .int .u32 (m : Int), .int .u8 (p : Int), .int .u32 (d : Int), .slice A xs.length c] 37) = W0 at *
  have HB := Aside0.mk (Below.refl W0.heap.size W0)
  refine (lives_c _).mono ?_
  rintro e w1 ⟨rfl, hb⟩
  have n0_ := Aside0.mk (below_then HB.out HB.out.size hb)
  clear HB
  have HB := n0_
  clear n0_ hb
  have HX1 := Aside0.mk ((HB.out.block w.heap.size HLT.out).trans HX0.out)
  have hx6 : w1.cell? ⟨w.heap.size, 6, none⟩ = some (.slice A xs.length c) := cell_of_row w1 w.heap.size 6 _ 37 (0, 0) HX1.out
  have hq : decide ((xs.length : Int) > 300) = false := decide_eq_false (by omega)
  have HL := Aside0.mk hl
  clear hl
  have HZ1 := Aside0.mk (heap_alloc_new w1 (.cells zero37 37))
  have HLT1 := Aside0.mk (show w1.heap.size < (w1.alloc (.cells zero37 37)).heap.size by simp)
  go_upto_region 4 with (first | ((with_reducible refine gate_dst (N := 26) rfl ?_); refine wpList_load_row rfl 37 (.tmp 2) rfl w.heap.size rfl 37 (#[.int .u32 (s : Int), .int .u32 (f : Int), .int .u32 (b : Int), .int .u32 (m : Int), .int .u8 (p : Int), .int .u32 (d : Int), .slice A xs.length c]) (0, 0) _ HX1.out Try.underlying37 rfl (by kernel_rfl) ?_) | ((with_reducible refine gate_dst (N := 5) rfl ?_); refine alloc37 5 rfl rfl rfl ?_) | (refine wpList_store_row rfl 37 (.tmp 5) (.tmp 26) rfl w1.heap.size (#[.int .u32 (s : Int), .int .u32 (f : Int), .int .u32 (b : Int), .int .u32 (m : Int), .int .u8 (p : Int), .int .u32 (d : Int), .slice A xs.length c]) rfl rfl 37 zero37 HZ1.out (by kernel_rfl) rfl (recs_one s f b m p d A xs.length c) ?_))
  have HP2 := Aside0.mk (show ((w1.alloc (.cells zero37 37)).setRow w1.heap.size #[.int .u32 (s : Int), .int .u32 (f : Int), .int .u32 (b : Int), .int .u32 (m : Int), .int .u8 (p : Int), .int .u32 (d : Int), .slice A xs.length c]).heap[w1.heap.size]? = some (.cells #[.int .u32 (s : Int), .int .u32 (f : Int), .int .u32 (b : Int), .int .u32 (m : Int), .int .u8 (p : Int), .int .u32 (d : Int), .slice A xs.length c] 37 (0, 0)) from setRow_heap _ _ _ _ _ _ HZ1.out)
  have HPL := Aside0.mk HB.out.size
  have HB2 := Aside0.mk (below_setRow (below_alloc HB.out (.cells zero37 37)) HPL.out #[.int .u32 (s : Int), .int .u32 (f : Int), .int .u32 (b : Int), .int .u32 (m : Int), .int .u8 (p : Int), .int .u32 (d : Int), .slice A xs.length c])
  clear hx6 hq HB HX1 HZ1 HLT1
  generalize ((w1.alloc (.cells zero37 37)).setRow w1.heap.size #[.int .u32 (s : Int), .int .u32 (f : Int), .int .u32 (b : Int), .int .u32 (m : Int), .int .u8 (p : Int), .int .u32 (d : Int), .slice A xs.length c]) = w2 at *
  generalize w1.heap.size = P at *
  have HX2 := Aside0.mk ((HB2.out.block w.heap.size HLT.out).trans HX0.out)
  have HPLT := Aside0.mk (blk_lt HP2.out)
  have HX3 := Aside0.mk ((blk_old w2 (.cells #[] 5) w.heap.size (blk_lt HX2.out)).trans HX2.out)
  have hx6 : (w2.alloc (.cells #[] 5)).cell? ⟨w.heap.size, 6, none⟩ = some (.slice A xs.length c) := cell_of_row _ w.heap.size 6 _ 37 (0, 0) HX3.out
  go_upto_region 5 with ((with_reducible refine gate_dst (N := 30) rfl ?_); at_builtin; refine Kd.R_append_rows (Kd.int .u8) (w0 := w2) w2.heap.size rfl (.tmp 27) (.tmp 29) 24 5 (.int .u8 0) 1 rfl Try.underlying24 info5 rfl (by decide) (by decide) (.slice (some ⟨w2.heap.size, 0, none⟩) 0 0) [] xs A xs.length c (fun _ => True) (fun _ => False) rfl rfl ?aO ?aR (fun _ _ h => h) (fun _ h => h.elim) (fun _ _ => trivial) ?aB ?aS ?aL ?_; (case aO => exact R_empty _ _ _ (Nat.le_refl _)); (case aR => exact Kd.C_alloc (Kd.C_below HR0.out HB2.out) _); (case aB => exact below_alloc (Below.refl _ _) _); (case aS => simp); (case aL => simp; have := HL.out; omega); intro v3 w3 ho hb hg hat; rw [List.nil_append] at ho; have HO := Aside0.mk ho; have HB3 := Aside0.mk hb; clear ho hb hg hat; obtain ⟨A1, c1, e1⟩ := Kd.R_slice HO.out; subst e1; have HP3 := Aside0.mk ((HB3.out.block P HPLT.out).trans HP2.out); have hxp6 := cell_of_row w3 P 6 _ 37 (0, 0) HP3.out; have hfr6 := frozen_of_row w3 P 6 _ 37 HP3.out)
  have HP6 := Aside0.mk (show (w3.setCell ⟨P, 6, none⟩ (.slice A1 xs.length c1)).heap[P]? = some (.cells (recs s f b m p d (.slice A1 xs.length c1)) 37 (0, 0)) from heap_setCell_same w3 P 6 _ 37 _ HP3.out)
  have HO6 := Aside0.mk (show (Kd.int .u8).R 5 (w3.setCell ⟨P, 6, none⟩ (.slice A1 xs.length c1)) w2.heap.size (fun _ => True) (.slice A1 xs.length c1) xs from Kd.R_mono (Kd.R_far (p := ⟨P, 6, none⟩) (Kd.R_mono (Kd.R_bound HO.out) (ok' := fun k => k ≠ P) (fun k hk => by have h1 := hk.2.1; have h2 : P < w2.heap.size := HPLT.out; omega)) (fun k hk => hk) _) (fun _ _ => trivial))
  have HB6 := Aside0.mk (show Below W0.heap.size W0 (w3.setCell ⟨P, 6, none⟩ (.slice A1 xs.length c1)) from (below_then HB2.out HB2.out.size HB3.out).setCell (p := ⟨P, 6, none⟩) HPL.out _)
  clear hx6 HP3 HO HB3 HB2 HX3 HX2 HP2 HPLT hxp6 hfr6
  generalize w3.setCell ⟨P, 6, none⟩ (.slice A1 xs.length c1) = w4 at *
  go_wp2_with ((with_reducible refine gate_dst (N := 33) rfl ?_); refine wpList_load_row rfl 37 (.tmp 5) rfl P rfl 37 (recs s f b m p d (.slice A1 xs.length c1)) (0, 0) _ HP6.out Try.underlying37 rfl (by kernel_rfl) ?_)
  refine (encode_any s f b m p d A1 xs.length c1 xs _ HN6.out.1 HN6.out.2.1 HN6.out.2.2.1 HN6.out.2.2.2.1 HN6.out.2.2.2.2.1 HN6.out.2.2.2.2.2 rfl (Kd.R_reads' HO6.out).2.2 (Kd.R_reads' HO6.out).2.1 HBY.out).mono ?_
  rintro e w5 ⟨A6, n6, c6, rfl, ho, hb⟩
  obtain rfl : n6 = (ebytes s f b m p d xs).length := (Kd.R_reads' ho).1
  have HV7 := Aside0.mk ho
  have HB7 := Aside0.mk (below_then HB6.out HB6.out.size hb)
  have HO7 := Aside0.mk (Kd.R_below HO6.out hb)
  have HP7 := Aside0.mk ((hb.block P (blk_lt HP6.out)).trans HP6.out)
  have HX7 := Aside0.mk ((HB7.out.block w.heap.size HLT.out).trans HX0.out)
  clear ho hb HB6 HO6 HP6
  go_wp2_with ((with_reducible refine gate_dst (N := 38) rfl ?_); refine wpList_load_row rfl 37 (.tmp 2) rfl w.heap.size rfl 37 (#[.int .u32 (s : Int), .int .u32 (f : Int), .int .u32 (b : Int), .int .u32 (m : Int), .int .u8 (p : Int), .int .u32 (d : Int), .slice A xs.length c]) (0, 0) _ HX7.out Try.underlying37 rfl (by kernel_rfl) ?_)
  refine (of_c s f b m p d A xs.length c _).mono ?_
  rintro e w6 ⟨rfl, hb⟩
  have HV8 := Aside0.mk (Kd.R_below HV7.out hb)
  have HO8 := Aside0.mk (Kd.R_below HO7.out hb)
  have HB8 := Aside0.mk (below_then HB7.out HB7.out.size hb)
  have HP8 := Aside0.mk ((hb.block P (blk_lt HP7.out)).trans HP7.out)
  clear hb HV7 HO7 HB7 HP7 HX7
  go_wp2_with (fail)
  refine (ref_encode_any s f b m p d A xs.length c xs _ HN6.out.1 HN6.out.2.1 HN6.out.2.2.1 HN6.out.2.2.2.1 HN6.out.2.2.2.2.1 HN6.out.2.2.2.2.2 rfl (Kd.C_below HR0.out HB8.out) HC.out HBY.out).mono ?_
  rintro e w9 ⟨A8, n8, c8, rfl, ho, hb⟩
  obtain rfl : n8 = (ebytes s f b m p d xs).length := (Kd.R_reads' ho).1
  have HU9 := Aside0.mk ho
  have HV9 := Aside0.mk (Kd.R_below HV8.out hb)
  have HO9 := Aside0.mk (Kd.R_below HO8.out hb)
  have HB9 := Aside0.mk (below_then HB8.out HB8.out.size hb)
  have HP9 := Aside0.mk ((hb.block P (blk_lt HP8.out)).trans HP8.out)
  have HX9 := Aside0.mk ((HB9.out.block w.heap.size HLT.out).trans HX0.out)
  have HR9 := Aside0.mk (Kd.C_below HR0.out HB9.out)
  clear ho hb HV8 HO8 HB8 HP8
  have HKC := Aside0.mk (show (ecode (right b p d xs.length) = 0 ∧ right b p d xs.length = true) ∨ (ecode (right b p d xs.length) = 1 ∧ right b p d xs.length = false) by cases h : right b p d xs.length <;> simp [ecode])
  have HEE := Aside0.mk (fun h : right b p d xs.length = true => show ebytes s f b m p d xs = enc s f b m p d xs by unfold ebytes; rw [if_pos h])
  generalize ecode (right b p d xs.length) = kd at *
  generalize ebytes s f b m p d xs = E at *
  go_upto_region 7 with (fail)
  refine start_ (n := 24) (S := (fun w' => Below w9.heap.size w9 w')) (ds := []) #[false, false, false, false, false, false, false, false, false, false, false, false, false, false, false, false, false, false, false, false, false, false, false, false] (by kernel_rfl) rfl rfl (below_drew1 (Below.refl _ _)) (fun hHeld => ?_)
  refine pure_ (i := 0) (N := some 43) (v := ?_) (a' := ?_) #[true, false, false, false, false, false, false, false, false, false, false, false, false, false, false, false, false, false, false, false, false, false, false, false] rfl rfl (by kernel_rfl) (fun _ _ _ h => h) (Or.inl ⟨by rfl, ?_⟩) ?_ ?_
  rotate_left
  · intro w'
    go_simp
    with_reducible rfl
  rotate_left
  · simp only [Act.put, List.setIfInBounds_toArray, List.set_cons_zero, List.set_cons_succ, i64_w, i32_w]
    rfl
  refine pure_ (i := 1) (N := some 44) (v := ?_) (a' := ?_) #[true, true, false, false, false, false, false, false, false, false, false, false, false, false, false, false, false, false, false, false, false, false, false, false] rfl rfl (by kernel_rfl) (fun _ _ _ h => h) (Or.inl ⟨by rfl, ?_⟩) ?_ ?_
  rotate_left
  · intro w'
    go_simp
    with_reducible rfl
  rotate_left
  · simp only [Act.put, List.setIfInBounds_toArray, List.set_cons_zero, List.set_cons_succ, i64_w, i32_w]
    rfl
  refine pure_ (i := 2) (N := some 45) (v := ?_) (a' := ?_) #[true, true, true, false, false, false, false, false, false, false, false, false, false, false, false, false, false, false, false, false, false, false, false, false] rfl rfl (by kernel_rfl) (fun _ _ _ h => h) (Or.inl ⟨by rfl, ?_⟩) ?_ ?_
  rotate_left
  · intro w'
    go_simp
    with_reducible rfl
  rotate_left
  · simp only [Act.put, List.setIfInBounds_toArray, List.set_cons_zero, List.set_cons_succ, i64_w, i32_w]
    rfl
  refine pure_ (i := 3) (N := some 46) (v := ?_) (a' := ?_) #[true, true, true, true, false, false, false, false, false, false, false, false, false, false, false, false, false, false, false, false, false, false, false, false] rfl rfl (by kernel_rfl) (fun _ _ _ h => h) (Or.inl ⟨by rfl, ?_⟩) ?_ ?_
  rotate_left
  · intro w'
    go_simp
    with_reducible rfl
  rotate_left
  · simp only [Act.put, List.setIfInBounds_toArray, List.set_cons_zero, List.set_cons_succ, i64_w, i32_w]
    rfl
  refine pure_ (i := 4) (N := some 47) (v := ?_) (a' := ?_) #[true, true, true, true, true, false, false, false, false, false, false, false, false, false, false, false, false, false, false, false, false, false, false, false] rfl rfl (by kernel_rfl) (fun _ _ _ h => h) (Or.inl ⟨by rfl, ?_⟩) ?_ ?_
  rotate_left
  · intro w'
    go_simp
    with_reducible rfl
  rotate_left
  · simp only [Act.put, List.setIfInBounds_toArray, List.set_cons_zero, List.set_cons_succ, i64_w, i32_w]
    rfl
  refine take_ (i := 5) (N := some 48) (v := ?_) (a' := ?_) #[true, true, true, true, true, true, false, false, false, false, false, false, false, false, false, false, false, false, false, false, false, false, false, false] rfl rfl (by kernel_rfl) (fun _ _ _ h => h) (Or.inl ⟨by rfl, ?_⟩) hHeld ?_ ?_
  rotate_left
  · intro w' hw'
    have hs := Kd.C_string (P := Try.prog) (c := c6) Try.underlying24 Try.underlying5 Try.underlying9 (Kd.C_below (Kd.R_reads' HV9.out).2.2 hw')
    go_simp
    with_reducible rfl
  rotate_left
  · simp only [Act.put, List.setIfInBounds_toArray, List.set_cons_zero, List.set_cons_succ, i64_w, i32_w]
    rfl
  refine pure_ (i := 6) (N := some 49) (v := ?_) (a' := ?_) #[true, true, true, true, true, true, true, false, false, false, false, false, false, false, false, false, false, false, false, false, false, false, false, false] rfl rfl (by kernel_rfl) (fun _ _ _ h => h) (Or.inl ⟨by rfl, ?_⟩) ?_ ?_
  rotate_left
  · intro w'
    go_simp
    with_reducible rfl
  rotate_left
  · simp only [Act.put, List.setIfInBounds_toArray, List.set_cons_zero, List.set_cons_succ, i64_w, i32_w]
    rfl
  refine take_ (i := 7) (N := some 50) (v := ?_) (a' := ?_) #[true, true, true, true, true, true, true, true, false, false, false, false, false, false, false, false, false, false, false, false, false, false, false, false] rfl rfl (by kernel_rfl) (fun _ _ _ h => h) (Or.inl ⟨by rfl, ?_⟩) hHeld ?_ ?_
  rotate_left
  · intro w' hw'
    have hs := Kd.C_string (P := Try.prog) (c := c8) Try.underlying24 Try.underlying5 Try.underlying9 (Kd.C_below (Kd.R_reads' HU9.out).2.2 hw')
    go_simp
    with_reducible rfl
  rotate_left
  · simp only [Act.put, List.setIfInBounds_toArray, List.set_cons_zero, List.set_cons_succ, i64_w, i32_w]
    rfl
  refine pure_ (i := 8) (N := some 51) (v := ?_) (a' := ?_) #[true, true, true, true, true, true, true, true, true, false, false, false, false, false, false, false, false, false, false, false, false, false, false, false] rfl rfl (by kernel_rfl) (fun _ _ _ h => h) (Or.inl ⟨by rfl, ?_⟩) ?_ ?_
  rotate_left
  · intro w'
    go_simp
    with_reducible rfl
  rotate_left
  · simp only [Act.put, List.setIfInBounds_toArray, List.set_cons_zero, List.set_cons_succ, i64_w, i32_w]
    rfl
  refine pure_ (i := 9) (N := some 52) (v := ?_) (a' := ?_) #[true, true, true, true, true, true, true, true, true, true, false, false, false, false, false, false, false, false, false, false, false, false, false, false] rfl rfl (by kernel_rfl) (fun _ _ _ h => h) (Or.inl ⟨by rfl, ?_⟩) ?_ ?_
  rotate_left
  · intro w'
    go_simp
    with_reducible rfl
  rotate_left
  · simp only [Act.put, List.setIfInBounds_toArray, List.set_cons_zero, List.set_cons_succ, i64_w, i32_w]
    rfl
  refine pure_ (i := 10) (N := some 53) (v := ?_) (a' := ?_) #[true, true, true, true, true, true, true, true, true, true, true, false, false, false, false, false, false, false, false, false, false, false, false, false] rfl rfl (by kernel_rfl) (fun _ _ _ h => h) (Or.inl ⟨by rfl, ?_⟩) ?_ ?_
  rotate_left
  · intro w'
    go_simp
    with_reducible rfl
  rotate_left
  · simp only [Act.put, List.setIfInBounds_toArray, List.set_cons_zero, List.set_cons_succ, i64_w, i32_w]
    rfl
  refine take_ (i := 11) (N := some 54) (v := ?_) (a' := ?_) #[true, true, true, true, true, true, true, true, true, true, true, true, false, false, false, false, false, false, false, false, false, false, false, false] rfl rfl (by kernel_rfl) (fun _ _ _ h => h) (Or.inl ⟨by rfl, ?_⟩) hHeld ?_ ?_
  rotate_left
  · intro w' hw'
    refine event_load37 (.tmp 2) (w.heap.size) (#[.int .u32 (s : Int), .int .u32 (f : Int), .int .u32 (b : Int), .int .u32 (m : Int), .int .u8 (p : Int), .int .u32 (d : Int), .slice A xs.length c]) ?_ ?_ ((hw'.block _ (blk_lt HX9.out)).trans HX9.out) rfl <;> rfl
  rotate_left
  · simp only [Act.put, List.setIfInBounds_toArray, List.set_cons_zero, List.set_cons_succ, i64_w, i32_w]
    rfl
  refine take_ (i := 13) (N := some 56) (v := ?_) (a' := ?_) #[true, true, true, true, true, true, true, true, true, true, true, true, false, true, false, false, false, false, false, false, false, false, false, false] rfl rfl (by kernel_rfl) (fun _ _ _ h => h) (Or.inl ⟨by rfl, ?_⟩) hHeld ?_ ?_
  rotate_left
  · intro w' hw'
    refine event_load37 (.tmp 2) (w.heap.size) (#[.int .u32 (s : Int), .int .u32 (f : Int), .int .u32 (b : Int), .int .u32 (m : Int), .int .u8 (p : Int), .int .u32 (d : Int), .slice A xs.length c]) ?_ ?_ ((hw'.block _ (blk_lt HX9.out)).trans HX9.out) rfl <;> rfl
  rotate_left
  · simp only [Act.put, List.setIfInBounds_toArray, List.set_cons_zero, List.set_cons_succ, i64_w, i32_w]
    rfl
  refine one_ (i := 12) (N := some 55) #[true, true, true, true, true, true, true, true, true, true, true, true, true, true, false, false, false, false, false, false, false, false, false, false] rfl rfl (by kernel_rfl) (by decide) (fun K hK => ?_)
  refine goes_ Try.func22 (by kernel_rfl) rfl #[.agg #[.int .u32 (s : Int), .int .u32 (f : Int), .int .u32 (b : Int), .int .u32 (m : Int), .int .u8 (p : Int), .int .u32 (d : Int), .slice A xs.length c]] (by rfl) rfl rfl (by (try simp only [List.map_toArray, List.map_cons, List.map_nil]); first | done | rfl) ?_
  refine (right_c s f b m p d A xs.length c _).mono ?_
  rintro e x1 ⟨rfl, hb⟩
  refine ⟨_, rfl, ?_⟩
  refine hK.out _ _ (below_then hHeld hHeld.size hb) (fun hHeld => ?_)
  clear hK K
  refine norm_ (a' := ?_) ?_ ?_
  rotate_left
  · show Act.put _ (some 55) _ = _
    simp only [Act.put, List.setIfInBounds_toArray, List.set_cons_zero, List.set_cons_succ, i64_w, i32_w]
    rfl
  refine one_ (i := 14) (N := some 57) #[true, true, true, true, true, true, true, true, true, true, true, true, true, true, true, false, false, false, false, false, false, false, false, false] rfl rfl (by kernel_rfl) (by decide) (fun K hK => ?_)
  refine goes_ Try.func21 (by kernel_rfl) rfl #[.agg #[.int .u32 (s : Int), .int .u32 (f : Int), .int .u32 (b : Int), .int .u32 (m : Int), .int .u8 (p : Int), .int .u32 (d : Int), .slice A xs.length c]] (by rfl) rfl rfl (by (try simp only [List.map_toArray, List.map_cons, List.map_nil]); first | done | rfl) ?_
  refine (of_c s f b m p d A xs.length c _).mono ?_
  rintro e x2 ⟨rfl, hb⟩
  refine ⟨_, rfl, ?_⟩
  refine hK.out _ _ (below_then hHeld hHeld.size hb) (fun hHeld => ?_)
  clear hK K
  refine norm_ (a' := ?_) ?_ ?_
  rotate_left
  · show Act.put _ (some 57) _ = _
    simp only [Act.put, List.setIfInBounds_toArray, List.set_cons_zero, List.set_cons_succ, i64_w, i32_w]
    rfl
  refine one_ (i := 15) (N := some 58) #[true, true, true, true, true, true, true, true, true, true, true, true, true, true, true, true, false, false, false, false, false, false, false, false] rfl rfl (by kernel_rfl) (by decide) (fun K hK => ?_)
  refine goes_ Try.func23 (by kernel_rfl) rfl #[.agg #[.int .u32 (s : Int), .int .u32 (f : Int), .int .u32 (b : Int), .int .u32 (m : Int), .int .u32 (d : Int), .int .u8 (p : Int), .slice A xs.length c]] (by rfl) rfl rfl (by (try simp only [List.map_toArray, List.map_cons, List.map_nil]); first | done | rfl) ?_
  refine (ref_right_c s f b m p d A xs.length c _).mono ?_
  rintro e x3 ⟨rfl, hb⟩
  refine ⟨_, rfl, ?_⟩
  refine hK.out _ _ (below_then hHeld hHeld.size hb) (fun hHeld => ?_)
  clear hK K
  refine norm_ (a' := ?_) ?_ ?_
  rotate_left
  · show Act.put _ (some 58) _ = _
    simp only [Act.put, List.setIfInBounds_toArray, List.set_cons_zero, List.set_cons_succ, i64_w, i32_w]
    rfl
  refine pure_ (i := 16) (N := some 59) (v := ?_) (a' := ?_) #[true, true, true, true, true, true, true, true, true, true, true, true, true, true, true, true, true, false, false, false, false, false, false, false] rfl rfl (by kernel_rfl) (fun _ _ _ h => h) (Or.inl ⟨by rfl, ?_⟩) ?_ ?_
  rotate_left
  · intro w'
    go_simp
    with_reducible rfl
  rotate_left
  · simp only [Act.put, List.setIfInBounds_toArray, List.set_cons_zero, List.set_cons_succ, i64_w, i32_w]
    rfl
  refine pure_ (i := 17) (N := some 60) (v := ?_) (a' := ?_) #[true, true, true, true, true, true, true, true, true, true, true, true, true, true, true, true, true, true, false, false, false, false, false, false] rfl rfl (by kernel_rfl) (fun _ _ _ h => h) (Or.inl ⟨by rfl, ?_⟩) ?_ ?_
  rotate_left
  · intro w'
    go_simp
    with_reducible rfl
  rotate_left
  · simp only [Act.put, List.setIfInBounds_toArray, List.set_cons_zero, List.set_cons_succ, i64_w, i32_w]
    rfl
  refine pure_ (i := 18) (N := some 61) (v := ?_) (a' := ?_) #[true, true, true, true, true, true, true, true, true, true, true, true, true, true, true, true, true, true, true, false, false, false, false, false] rfl rfl (by kernel_rfl) (fun _ _ _ h => h) (Or.inl ⟨by rfl, ?_⟩) ?_ ?_
  rotate_left
  · intro w'
    go_simp
    with_reducible rfl
  rotate_left
  · simp only [Act.put, List.setIfInBounds_toArray, List.set_cons_zero, List.set_cons_succ, i64_w, i32_w]
    rfl
  refine take_ (i := 19) (N := some 62) (v := ?_) (a' := ?_) #[true, true, true, true, true, true, true, true, true, true, true, true, true, true, true, true, true, true, true, true, false, false, false, false] rfl rfl (by kernel_rfl) (fun _ _ _ h => h) (Or.inl ⟨by rfl, ?_⟩) hHeld ?_ ?_
  rotate_left
  · intro w' hw'
    refine event_load37 (.tmp 5) (P) (recs s f b m p d (.slice A1 xs.length c1)) ?_ ?_ ((hw'.block _ (blk_lt HP9.out)).trans HP9.out) rfl <;> rfl
  rotate_left
  · simp only [Act.put, List.setIfInBounds_toArray, List.set_cons_zero, List.set_cons_succ, i64_w, i32_w]
    rfl
  refine take_ (i := 20) (N := some 63) (v := ?_) (a' := ?_) #[true, true, true, true, true, true, true, true, true, true, true, true, true, true, true, true, true, true, true, true, true, false, false, false] rfl rfl (by kernel_rfl) (fun _ _ _ h => h) (Or.inl ⟨by rfl, ?_⟩) hHeld ?_ ?_
  rotate_left
  · intro w' hw'
    refine event_load37 (.tmp 2) (w.heap.size) (#[.int .u32 (s : Int), .int .u32 (f : Int), .int .u32 (b : Int), .int .u32 (m : Int), .int .u8 (p : Int), .int .u32 (d : Int), .slice A xs.length c]) ?_ ?_ ((hw'.block _ (blk_lt HX9.out)).trans HX9.out) rfl <;> rfl
  rotate_left
  · simp only [Act.put, List.setIfInBounds_toArray, List.set_cons_zero, List.set_cons_succ, i64_w, i32_w]
    rfl
  refine one_ (i := 21) (N := some 64) #[true, true, true, true, true, true, true, true, true, true, true, true, true, true, true, true, true, true, true, true, true, true, false, false] rfl rfl (by kernel_rfl) (by decide) (fun K hK => ?_)
  refine goes_ Try.func24 (by kernel_rfl) rfl #[.agg #[.int .u32 (s : Int), .int .u32 (f : Int), .int .u32 (b : Int), .int .u32 (m : Int), .int .u8 (p : Int), .int .u32 (d : Int), .slice A1 xs.length c1], .agg #[.int .u32 (s : Int), .int .u32 (f : Int), .int .u32 (b : Int), .int .u32 (m : Int), .int .u8 (p : Int), .int .u32 (d : Int), .slice A xs.length c]] (by rfl) rfl rfl (by (try simp only [List.map_toArray, List.map_cons, List.map_nil]); first | done | rfl) ?_
  refine (same_c s f b m p d A1 A xs.length xs.length c1 c xs _ (Kd.C_below (Kd.R_reads' HO9.out).2.2 hHeld) (Kd.C_below HR9.out hHeld)).mono ?_
  rintro e x4 ⟨rfl, hb⟩
  refine ⟨_, rfl, ?_⟩
  refine hK.out _ _ (below_then hHeld hHeld.size hb) (fun hHeld => ?_)
  clear hK K
  refine norm_ (a' := ?_) ?_ ?_
  rotate_left
  · show Act.put _ (some 64) _ = _
    simp only [Act.put, List.setIfInBounds_toArray, List.set_cons_zero, List.set_cons_succ, i64_w, i32_w]
    rfl
  refine pure_ (i := 22) (N := some 65) (v := ?_) (a' := ?_) #[true, true, true, true, true, true, true, true, true, true, true, true, true, true, true, true, true, true, true, true, true, true, true, false] rfl rfl (by kernel_rfl) (fun _ _ _ h => h) (Or.inl ⟨by rfl, ?_⟩) ?_ ?_
  rotate_left
  · intro w'
    go_simp
    with_reducible rfl
  rotate_left
  · simp only [Act.put, List.setIfInBounds_toArray, List.set_cons_zero, List.set_cons_succ, i64_w, i32_w]
    rfl
  refine pure_ (i := 23) (N := some 66) (v := ?_) (a' := ?_) #[true, true, true, true, true, true, true, true, true, true, true, true, true, true, true, true, true, true, true, true, true, true, true, true] rfl rfl (by kernel_rfl) (fun _ _ _ h => h) (Or.inl ⟨by rfl, ?_⟩) ?_ ?_
  rotate_left
  · intro w'
    go_simp
    with_reducible rfl
  rotate_left
  · simp only [Act.put, List.setIfInBounds_toArray, List.set_cons_zero, List.set_cons_succ, i64_w, i32_w]
    rfl
  refine done_ (by kernel_rfl) ?_
  rcases HKC.out with ⟨rfl, hri⟩ | ⟨rfl, hri⟩
  · have hE := HEE.out hri
    have hxl : xs.length ≤ 128 := by simp [right] at hri; omega
    have HRI := Aside0.mk hri
    have HEL := Aside0.mk (show E.length = 160 by rw [hE]; exact enc_len s f b m p d xs hxl)
    have HEB := Aside0.mk (show Bytes E by rw [hE]; exact bytes_enc HN6.out.2.2.2.2.1 HBY.out)
    have HEG := Aside0.mk (show Good E by rw [hE]; exact good_enc s f b m p d xs HN6.out.1 HN6.out.2.1 HN6.out.2.2.1 HN6.out.2.2.2.1 HN6.out.2.2.2.2.2 hri)
    have HE := Aside0.mk hE
    have HV10 := Aside0.mk (Kd.R_below HV9.out hHeld)
    have HB10 := Aside0.mk (below_then HB9.out HB9.out.size hHeld)
    clear hHeld HEE HKC hri hxl hE HU9 HO9 HP9 HX9 HR9 HB9 HV9
    obtain ⟨g, cap, e6, hg1, hg2⟩ := (Kd.own_of_R HV10.out).form (by rw [HEL.out]; decide)
    injection e6 with e6 _ e7
    subst e6
    subst e7
    have HC6 := Aside0.mk (show 160 ≤ c6 by have := (Kd.R_reads' HV10.out).2.1; rw [HEL.out] at this; exact this)
    clear hg1 hg2
    rw [HEL.out]
    go_wp2_with (fail)
    refine (parse_enc s f b m p d xs g 160 c6 _ HN6.out.1 HN6.out.2.1 HN6.out.2.2.1 HN6.out.2.2.2.1 HN6.out.2.2.2.2.1 HN6.out.2.2.2.2.2 HBY.out HRI.out (by rw [← HE.out]; exact HEL.out.symm) (by rw [← HE.out, ← HEL.out]; exact (Kd.R_reads' HV10.out).2.2) HC6.out).mono ?_
    rintro e w11 ⟨A11, n11, c11, rfl, ho, hb⟩
    obtain rfl : n11 = xs.length := (Kd.R_reads' ho).1
    have HO11 := Aside0.mk ho
    have HV11 := Aside0.mk (Kd.R_below HV10.out hb)
    have HB11 := Aside0.mk (below_then HB10.out HB10.out.size hb)
    have HZ11 := Aside0.mk (heap_alloc_new w11 (.cells zero37 37))
    clear ho hb HV10
    go_upto_region 12 with (first | ((with_reducible refine gate_dst (N := 10) rfl ?_); refine alloc37 10 rfl rfl rfl ?_) | (refine wpList_store_row rfl 37 (.tmp 10) (.tmp 72) rfl w11.heap.size (recs s f b m p d (.slice A11 xs.length c11)) rfl rfl 37 zero37 HZ11.out (by kernel_rfl) rfl (recs_one s f b m p d A11 xs.length c11) ?_))
    have hb := below_setRow (below_alloc (Below.refl w11.heap.size w11) (.cells zero37 37)) (Nat.le_refl w11.heap.size) (recs s f b m p d (.slice A11 xs.length c11))
    have HP12 := Aside0.mk (show ((w11.alloc (.cells zero37 37)).setRow w11.heap.size (recs s f b m p d (.slice A11 xs.length c11))).heap[w11.heap.size]? = some (.cells (recs s f b m p d (.slice A11 xs.length c11)) 37 (0, 0)) from setRow_heap _ _ _ _ _ _ HZ11.out)
    have HO12 := Aside0.mk (Kd.R_below HO11.out hb)
    have HV12 := Aside0.mk (Kd.R_below HV11.out hb)
    have HB12 := Aside0.mk (below_then HB11.out HB11.out.size hb)
    clear hb HZ11 HO11 HV11 HB11
    generalize (w11.alloc (.cells zero37 37)).setRow w11.heap.size (recs s f b m p d (.slice A11 xs.length c11)) = w12 at *
    generalize w11.heap.size = Q at *
    obtain ⟨i, hi, hi2⟩ := place8 k
    go_upto_region 14 with ((with_reducible refine gate_dst (N := 80) rfl ?_); at_builtin; refine Kd.R_append_rows (Kd.int .u8) (w0 := w12) w12.heap.size rfl (.tmp 78) (.tmp 79) 24 5 (.int .u8 0) 1 rfl Try.underlying24 info5 rfl (by decide) (by decide) (.slice (some ⟨w12.heap.size, 0, none⟩) 0 0) [] E (some ⟨g, 0, none⟩) 160 c6 (fun _ => True) (fun _ => False) rfl rfl ?aO ?aR (fun _ _ h => h) (fun _ h => h.elim) (fun _ _ => trivial) ?aB ?aS ?aL ?_; (case aO => exact R_empty _ _ _ (Nat.le_refl _)); (case aR => (have hcc := (Kd.R_reads' HV12.out).2.2; rw [HEL.out] at hcc; exact Kd.C_alloc hcc _)); (case aB => exact below_alloc (Below.refl _ _) _); (case aS => simp); (case aL => simp); intro v13 w13 ho hb hg hat; rw [List.nil_append] at ho; have HO13 := Aside0.mk ho; have HB13 := Aside0.mk hb; clear ho hb hg hat; obtain ⟨A13, c13, e13⟩ := Kd.R_slice HO13.out; subst e13)
    clear hi
    obtain ⟨g2, cap2, e8, hg1, hg2⟩ := (Kd.own_of_R HO13.out).form (by rw [HEL.out]; decide)
    injection e8 with e8 _ e9
    subst e8
    subst e9
    rw [HEL.out]
    have hj : i / 8 < E.length := by rw [HEL.out]; omega
    have hcell : w13.cell? ⟨g2, i / 8, none⟩ = some (.int .u8 ((at_ E (i / 8) : Nat) : Int)) := byte_at (Kd.R_reads' HO13.out).2.2 HEB.out (i / 8) hj hj
    have hfree : w13.frozen? ⟨g2, i / 8, none⟩ = false := (own_at (k := .u8) (Kd.own_of_R HO13.out) ((i / 8 : Nat) : Int) (by omega) (by omega)).2
    have hb8 := at_lt HEB.out (i / 8)
    have HTB := Aside0.mk (turned_bad E HEB.out HEG.out (i / 8) (i % 8) (by omega) (by omega))
    have HG2 := Aside0.mk hg1
    obtain ⟨j, hjq⟩ : ∃ j, j = i / 8 := ⟨_, rfl⟩
    obtain ⟨mm, hmq⟩ : ∃ mm, mm = i % 8 := ⟨_, rfl⟩
    have hm8 : mm < 8 := by omega
    have hj160 : (j : Int) < 160 := by omega
    have hj1 : j < 160 := by omega
    rw [← hjq] at hcell hfree HTB hb8
    rw [← hmq] at HTB
    obtain ⟨_, hw2, hw3⟩ := idx_of i 0 i j mm (by omega) hjq hmq (by omega)
    have hsw := wrap_pow8 mm hm8
    have hpm := pow_lt8 mm hm8
    generalize 2 ^ mm = pm at *
    generalize hbv : at_ E j = bj at *
    have hx8 := xor8 bj pm hb8 hpm
    have HBJ := Aside0.mk hbv
    clear hbv hjq hmq hg1 hg2 hj
    refine start_ (n := 11) (S := (fun w' => w'.cell? ⟨g2, j, none⟩ = some (.int .u8 (bj : Int)))) (ds := [10]) #[false, false, false, false, false, false, false, false, false, false, false] (by kernel_rfl) rfl rfl hcell (fun hHeld => ?_)
    refine pure_ (i := 0) (N := some 81) (v := ?_) (a' := ?_) #[true, false, false, false, false, false, false, false, false, false, false] rfl rfl (by kernel_rfl) (fun _ _ _ h => h) (Or.inl ⟨by rfl, ?_⟩) ?_ ?_
    rotate_left
    · intro w'
      go_simp
      with_reducible rfl
    rotate_left
    · simp only [Act.put, List.setIfInBounds_toArray, List.set_cons_zero, List.set_cons_succ, i64_w, i32_w]
      rfl
    refine pure_ (i := 1) (N := some 82) (v := ?_) (a' := ?_) #[true, true, false, false, false, false, false, false, false, false, false] rfl rfl (by kernel_rfl) (fun _ _ _ h => h) (Or.inl ⟨by rfl, ?_⟩) ?_ ?_
    rotate_left
    · intro w'
      go_simp
      with_reducible rfl
    rotate_left
    · simp only [Act.put, List.setIfInBounds_toArray, List.set_cons_zero, List.set_cons_succ, i64_w, i32_w]
      rfl
    refine pure_ (i := 2) (N := some 83) (v := ?_) (a' := ?_) #[true, true, true, false, false, false, false, false, false, false, false] rfl rfl (by kernel_rfl) (fun _ _ _ h => h) (Or.inl ⟨by rfl, ?_⟩) ?_ ?_
    rotate_left
    · intro w'
      go_simp
      with_reducible rfl
    rotate_left
    · simp only [Act.put, List.setIfInBounds_toArray, List.set_cons_zero, List.set_cons_succ, i64_w, i32_w]
      rfl
    refine pure_ (i := 3) (N := some 84) (v := ?_) (a' := ?_) #[true, true, true, true, false, false, false, false, false, false, false] rfl rfl (by kernel_rfl) (fun _ _ _ h => h) (Or.inl ⟨by rfl, ?_⟩) ?_ ?_
    rotate_left
    · intro w'
      go_simp
      with_reducible rfl
    rotate_left
    · simp only [Act.put, List.setIfInBounds_toArray, List.set_cons_zero, List.set_cons_succ, i64_w, i32_w]
      rfl
    refine take_ (i := 4) (N := some 85) (v := ?_) (a' := ?_) #[true, true, true, true, true, false, false, false, false, false, false] rfl rfl (by kernel_rfl) (fun _ _ _ h => h) (Or.inl ⟨by rfl, ?_⟩) hHeld ?_ ?_
    rotate_left
    · intro w' hw'
      have hw2' := hw'
      clear hw'
      go_simp
      with_reducible rfl
    rotate_left
    · simp only [Act.put, List.setIfInBounds_toArray, List.set_cons_zero, List.set_cons_succ, i64_w, i32_w]
      rfl
    refine pure_ (i := 5) (N := some 86) (v := ?_) (a' := ?_) #[true, true, true, true, true, true, false, false, false, false, false] rfl rfl (by kernel_rfl) (fun _ _ _ h => h) (Or.inl ⟨by rfl, ?_⟩) ?_ ?_
    rotate_left
    · intro w'
      go_simp
      with_reducible rfl
    rotate_left
    · simp only [Act.put, List.setIfInBounds_toArray, List.set_cons_zero, List.set_cons_succ, i64_w, i32_w]
      rfl
    refine pure_ (i := 6) (N := some 87) (v := ?_) (a' := ?_) #[true, true, true, true, true, true, true, false, false, false, false] rfl rfl (by kernel_rfl) (fun _ _ _ h => h) (Or.inl ⟨by rfl, ?_⟩) ?_ ?_
    rotate_left
    · intro w'
      go_simp
      with_reducible rfl
    rotate_left
    · simp only [Act.put, List.setIfInBounds_toArray, List.set_cons_zero, List.set_cons_succ, i64_w, i32_w]
      rfl
    refine pure_ (i := 7) (N := some 88) (v := ?_) (a' := ?_) #[true, true, true, true, true, true, true, true, false, false, false] rfl rfl (by kernel_rfl) (fun _ _ _ h => h) (Or.inl ⟨by rfl, ?_⟩) ?_ ?_
    rotate_left
    · intro w'
      go_simp
      with_reducible rfl
    rotate_left
    · simp only [Act.put, List.setIfInBounds_toArray, List.set_cons_zero, List.set_cons_succ, i64_w, i32_w]
      rfl
    refine pure_ (i := 8) (N := some 89) (v := ?_) (a' := ?_) #[true, true, true, true, true, true, true, true, true, false, false] rfl rfl (by kernel_rfl) (fun _ _ _ h => h) (Or.inl ⟨by rfl, ?_⟩) ?_ ?_
    rotate_left
    · intro w'
      go_simp
      with_reducible rfl
    rotate_left
    · simp only [Act.put, List.setIfInBounds_toArray, List.set_cons_zero, List.set_cons_succ, i64_w, i32_w]
      rfl
    refine pure_ (i := 9) (N := some 90) (v := ?_) (a' := ?_) #[true, true, true, true, true, true, true, true, true, true, false] rfl rfl (by kernel_rfl) (fun _ _ _ h => h) (Or.inl ⟨by rfl, ?_⟩) ?_ ?_
    rotate_left
    · intro w'
      go_simp
      with_reducible rfl
    rotate_left
    · simp only [Act.put, List.setIfInBounds_toArray, List.set_cons_zero, List.set_cons_succ, i64_w, i32_w]
      rfl
    refine last_ (i := 10) (N := none) #[true, true, true, true, true, true, true, true, true, true, true] rfl rfl (by kernel_rfl) (by decide) (fun K hK => ?_)
    refine skip_ (w1 := ?_) (by rfl) rfl ?_ ?_
    rotate_left
    · go_simp
      rfl
    refine hK.out _ _ ?_
    clear hK K
    refine done_ (by kernel_rfl) ?_
    have HD := Aside0.mk (show (Kd.int .u8).R 5 ((w13.setCell ⟨g2, j, none⟩ (.int .u8 ((bj ^^^ pm : Nat) : Int))).drew) w12.heap.size (fun _ => True) (.slice (some ⟨g2, 0, none⟩) E.length c13) (E.set j ((bj ^^^ pm : Nat) : Int)) from Kd.R_putn HO13.out (j : Int) ((bj ^^^ pm : Nat) : Int))
    have hbd := below_drew (HB13.out.setCell (p := ⟨g2, j, none⟩) HG2.out (.int .u8 ((bj ^^^ pm : Nat) : Int)))
    have HO14 := Aside0.mk (Kd.R_below HO12.out hbd)
    have HV14 := Aside0.mk (Kd.R_below HV12.out hbd)
    have HB14 := Aside0.mk (below_then HB12.out HB12.out.size hbd)
    have HP14 := Aside0.mk ((hbd.block Q (blk_lt HP12.out)).trans HP12.out)
    have HDL := Aside0.mk (show (E.set j ((bj ^^^ pm : Nat) : Int)).length = 160 by rw [List.length_set]; exact HEL.out)
    have HDB := Aside0.mk (show Bytes (E.set j ((bj ^^^ pm : Nat) : Int)) from fun n hn => by
      rcases List.mem_or_eq_of_mem_set hn with h | h
      · exact HEB.out n h
      · have := Nat.xor_lt_two_pow (n := 8) hb8 hpm
        omega)
    clear hbd hHeld hcell hfree hsw hx8 hw2 hw3 HBJ hpm HO12 HV12 HB12 HP12 HO13 HB13 HG2
    rw [HEL.out] at HD
    generalize (w13.setCell ⟨g2, j, none⟩ (.int .u8 ((bj ^^^ pm : Nat) : Int))).drew = w14 at *
    generalize E.set j ((bj ^^^ pm : Nat) : Int) = D at *
    go_wp2_with (fail)
    refine (parse_code (some ⟨g2, 0, none⟩) 160 c13 D _ HDL.out.symm (fun _ => ⟨g2, rfl⟩) (by have := (Kd.R_reads' HD.out).2.2; rw [HDL.out] at this; exact this) HDB.out (Kd.R_reads' HD.out).2.1).mono ?_
    rintro e w15 ⟨row, h, rfl, hrs, hro, hgd, hb5⟩
    have HO15 := Aside0.mk (Kd.R_below HO14.out hb5)
    have HV15 := Aside0.mk (Kd.R_below HV14.out hb5)
    have HB15 := Aside0.mk (below_then HB14.out HB14.out.size hb5)
    have HP15 := Aside0.mk ((hb5.block Q (blk_lt HP14.out)).trans HP14.out)
    have HZ15 := Aside0.mk (heap_alloc_new w15 (.cells zero37 37))
    have HRS := Aside0.mk hrs
    have HRO := Aside0.mk hro
    have HGD := Aside0.mk hgd
    clear hrs hro hgd hb5 HO14 HV14 HB14 HP14 HD
    go_upto_region 16 with (first | ((with_reducible refine gate_dst (N := 14) rfl ?_); refine alloc37 14 rfl rfl rfl ?_) | (refine wpList_store_row rfl 37 (.tmp 14) (.tmp 94) rfl w15.heap.size row rfl rfl 37 zero37 HZ15.out (by rw [HRS.out]; kernel_rfl) (by rw [HRS.out]; rfl) HRO.out ?_))
    have hbe := below_setRow (below_alloc (Below.refl w15.heap.size w15) (.cells zero37 37)) (Nat.le_refl w15.heap.size) row
    have HO16 := Aside0.mk (Kd.R_below HO15.out hbe)
    have HV16 := Aside0.mk (Kd.R_below HV15.out hbe)
    have HB16 := Aside0.mk (below_then HB15.out HB15.out.size hbe)
    have HP16 := Aside0.mk ((hbe.block Q (blk_lt HP15.out)).trans HP15.out)
    clear hbe HZ15 HO15 HV15 HB15 HP15 HRS HRO
    generalize (w15.alloc (.cells zero37 37)).setRow w15.heap.size row = w16 at *
    have HX16 := Aside0.mk ((HB16.out.block w.heap.size HLT.out).trans HX0.out)
    have hcv := (Kd.R_reads' HV16.out).2.2
    rw [HEL.out] at hcv
    have hs := Kd.C_string (P := Try.prog) (c := c6 - 156) Try.underlying24 Try.underlying5 Try.underlying9 (C_sub hcv 156 4 (by decide))
    have h156 : ¬ c6 = 156 := by have := HC6.out; omega
    have HCV := Aside0.mk hcv
    clear hcv
    by_cases h0 : h = 0
    · have HF := Aside0.mk (tail_zero E HEB.out HEL.out (by rw [← HEG.out.2.2.1]; exact HTB.out (HGD.out h0)))
      rw [HF.out] at hs
      subst h0
      go_wp2_with (first | ((with_reducible refine gate_dst (N := 103) rfl ?_); refine gate_guard (by rfl) ?_; refine wpList_load_row rfl 37 (.tmp 10) rfl Q rfl 37 (recs s f b m p d (.slice A11 xs.length c11)) (0, 0) _ HP16.out Try.underlying37 rfl (by kernel_rfl) ?_) | ((with_reducible refine gate_dst (N := 104) rfl ?_); refine gate_guard (by rfl) ?_; refine wpList_load_row rfl 37 (.tmp 2) rfl w.heap.size rfl 37 (#[.int .u32 (s : Int), .int .u32 (f : Int), .int .u32 (b : Int), .int .u32 (m : Int), .int .u8 (p : Int), .int .u32 (d : Int), .slice A xs.length c]) (0, 0) _ HX16.out Try.underlying37 rfl (by kernel_rfl) ?_))
      refine (same_c s f b m p d A11 A xs.length xs.length c11 c xs _ (Kd.R_reads' HO16.out).2.2 (Kd.C_below HR0.out HB16.out)).mono ?_
      rintro e w17 ⟨rfl, hb7⟩
      go_wp2
      go_ret
      refine ⟨?_, below_step HW0.out (below_then HB16.out HB16.out.size hb7)⟩
      simp [show (strOfNums [0, 0, 0, 0]).toList = [0, 0, 0, 0] by rw [str_list]; decide]
    · have hq : (((h : Nat) : Int) != 0) = true := by rw [bne_iff_ne]; omega
      go_wp2_with (first | ((with_reducible refine gate_dst (N := 103) rfl ?_); refine gate_guard (by rfl) ?_; refine wpList_load_row rfl 37 (.tmp 10) rfl Q rfl 37 (recs s f b m p d (.slice A11 xs.length c11)) (0, 0) _ HP16.out Try.underlying37 rfl (by kernel_rfl) ?_) | ((with_reducible refine gate_dst (N := 104) rfl ?_); refine gate_guard (by rfl) ?_; refine wpList_load_row rfl 37 (.tmp 2) rfl w.heap.size rfl 37 (#[.int .u32 (s : Int), .int .u32 (f : Int), .int .u32 (b : Int), .int .u32 (m : Int), .int .u8 (p : Int), .int .u32 (d : Int), .slice A xs.length c]) (0, 0) _ HX16.out Try.underlying37 rfl (by kernel_rfl) ?_))
      refine (same_c s f b m p d A11 A xs.length xs.length c11 c xs _ (Kd.R_reads' HO16.out).2.2 (Kd.C_below HR0.out HB16.out)).mono ?_
      rintro e w17 ⟨rfl, hb7⟩
      go_wp2
      go_ret
      exact ⟨rfl, below_step HW0.out (below_then HB16.out HB16.out.size hb7)⟩
  · go_wp2
    go_ret
    exact ⟨rfl, below_step HW0.out (below_then HB9.out HB9.out.size hHeld)⟩
theorem law_bytes (s f b m p d : Nat) (A : Option Addr) (c : Nat) (xs : List Int) (k : Int) (w : World) (hs : s < 4294967296) (hf : f < 4294967296) (hb : b < 4294967296) (hm : m < 4294967296) (hp : p < 256) (hd : d < 4294967296) (hr : (Kd.int .u8).C w A xs.length xs) (hc : xs.length ≤ c) (hby : Bytes xs) (hk : (Lit.int .i64 k).wf = true) :
    Calls Try.prog 8 #[.agg #[.int .u32 (s : Int), .int .u32 (f : Int), .int .u32 (b : Int), .int .u32 (m : Int), .int .u8 (p : Int), .int .u32 (d : Int), .slice A xs.length c], .int .i64 k] w fun e w' => e = .returned (.bool true) ∧ Below w.heap.size w w' := by
  by_cases h : xs.length ≤ 300
  · exact law_bytes_short s f b m p d A c xs k w hs hf hb hm hp hd hr hc hby hk h
  · exact law_bytes_long s f b m p d A xs.length c k w (by omega)
end Go.Proofs.Ytjblklejjemdhaa.Krec
