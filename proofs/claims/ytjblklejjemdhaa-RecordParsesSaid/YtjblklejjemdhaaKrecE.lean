/- The reference's Encode, walked. -/
import Derived.Test.YtjblklejjemdhaaKrecD
namespace Go.Proofs.Ytjblklejjemdhaa.Krec
set_option linter.unusedVariables false
set_option linter.unusedSimpArgs false
open Go.RowKit Go.Proofs.YtjblklejjemdhaaW.PrintWords Go.Proofs.YtjblklejjemdhaaW.PrintLast Go.Proofs.YtjblklejjemdhaaW.PrintMore Kbase Kcrc
/-- What the loop over the zeros holds at each round's head; gk rounds are left. -/
def RefAt (H : List Int) (W0 : World) (N gk : Nat) (v : Value) (wr : World) : Prop := ∃ j : Nat, gk + j = N ∧ (Kd.int .u8).R 5 wr W0.heap.size (fun _ => True) v (H ++ List.replicate j 0) ∧ Below W0.heap.size W0 wr
set_option maxHeartbeats 1000000 in
set_option maxRecDepth 100000 in
theorem ref_encode_bad (s f b m p d : Nat) (A : Option Addr) (n c : Nat) (w : World) (hri : right b p d n = false) :
    Calls Try.prog 20 #[.agg #[.int .u32 (s : Int), .int .u32 (f : Int), .int .u32 (b : Int), .int .u32 (m : Int), .int .u32 (d : Int), .int .u8 (p : Int), .slice A n c]] w fun e w' => e = .returned (.tuple #[.slice none 0 0, .int .i64 1]) ∧ Below w.heap.size w w' := by
  go_enter Try.func20, Try.ntmps20
  go_wp2_with (fail)
  refine (ref_right_c s f b m p d A n c _).mono ?_
  rintro e w1 ⟨rfl, hb1⟩
  rw [hri]
  have HB := Aside0.mk (below_step (below_alloc (Below.refl _ _) _) hb1)
  clear hb1 hri
  go_wp2
  go_ret2
  exact ⟨rfl, HB.out⟩
set_option maxHeartbeats 4000000 in
set_option maxRecDepth 100000 in
theorem ref_encode_ok (s f b m p d : Nat) (A : Option Addr) (n c : Nat) (xs : List Int) (w : World) (hs : s < 4294967296) (hf : f < 4294967296) (hb0 : b < 4294967296) (hm : m < 4294967296) (hp : p < 256) (hd : d < 4294967296) (hn : n = xs.length) (hr : (Kd.int .u8).C w A n xs) (hc : n ≤ c) (hby : Bytes xs) (hri : right b p d n = true) :
    Calls Try.prog 20 #[.agg #[.int .u32 (s : Int), .int .u32 (f : Int), .int .u32 (b : Int), .int .u32 (m : Int), .int .u32 (d : Int), .int .u8 (p : Int), .slice A n c]] w fun e w' => ∃ v, e = .returned (.tuple #[v, .int .i64 0]) ∧ Kd.R (Kd.int .u8) 5 w' w.heap.size (fun _ => True) v (enc s f b m p d xs) ∧ Below w.heap.size w w' := by
  have HR := Aside0.mk hr
  have HC := Aside0.mk hc
  have HBY := Aside0.mk hby
  have HN := Aside0.mk hn
  have HN8 := Aside0.mk (show n ≤ 128 by simp [right] at hri; omega)
  have HRI := Aside0.mk hri
  clear hr hc hby hn hri
  go_enter Try.func20, Try.ntmps20
  go_wp2_with (fail)
  have HX0 := Aside0.mk (heap_alloc_new w (.cells #[.int .u32 (s : Int), .int .u32 (f : Int), .int .u32 (b : Int), .int .u32 (m : Int), .int .u32 (d : Int), .int .u8 (p : Int), .slice A n c] 44))
  have HLT := Aside0.mk (show w.heap.size < (w.alloc (.cells #[.int .u32 (s : Int), .int .u32 (f : Int), .int .u32 (b : Int), .int .u32 (m : Int), .int .u32 (d : Int), .int .u8 (p : Int), .slice A n c] 44)).heap.size by simp)
  have HW0 := Aside0.mk (below_alloc (Below.refl w.heap.size w) (.cells #[.int .u32 (s : Int), .int .u32 (f : Int), .int .u32 (b : Int), .int .u32 (m : Int), .int .u32 (d : Int), .int .u8 (p : Int), .slice A n c] 44))
  generalize w.alloc (.cells #[.int .u32 (s : Int), .int .u32 (f : Int), .int .u32 (b : Int), .int .u32 (m : Int), .int .u32 (d : Int), .int .u8 (p : Int), .slice A n c] 44) = W0 at *
  refine (ref_right_c s f b m p d A n c _).mono ?_
  rintro e w1 ⟨rfl, hb1⟩
  rw [HRI.out]
  have HB := Aside0.mk hb1
  have HBS := Aside0.mk hb1.size
  clear hb1
  go_wp2_with (fail)
  have HXW := Aside0.mk ((HB.out.block w.heap.size HLT.out).trans HX0.out)
  refine start_ (n := 6) (S := (fun w' => w'.heap[w.heap.size]? = some (.cells #[.int .u32 (s : Int), .int .u32 (f : Int), .int .u32 (b : Int), .int .u32 (m : Int), .int .u32 (d : Int), .int .u8 (p : Int), .slice A n c] 44 (0, 0)))) (ds := []) #[false, false, false, false, false, false] (by kernel_rfl) rfl rfl HXW.out (fun hHeld => ?_)
  refine pure_ (i := 1) (N := some 11) (v := ?_) (a' := ?_) #[false, true, false, false, false, false] rfl rfl (by kernel_rfl) (fun _ _ _ h => h) (Or.inl ⟨by rfl, ?_⟩) ?_ ?_
  rotate_left
  · intro w'
    go_simp
    with_reducible rfl
  rotate_left
  · simp only [Act.put, List.setIfInBounds_toArray, List.set_cons_zero, List.set_cons_succ, i64_w, i32_w]
    rfl
  refine take_ (i := 2) (N := some 12) (v := ?_) (a' := ?_) #[false, true, true, false, false, false] rfl rfl (by kernel_rfl) (fun _ _ _ h => h) (Or.inl ⟨by rfl, ?_⟩) hHeld ?_ ?_
  rotate_left
  · intro w' hw'
    have q0 := cell_of_row w' w.heap.size 0 _ 44 (0, 0) hw'
    simp only [List.getElem?_toArray, List.getElem?_cons_succ, List.getElem?_cons_zero] at q0
    clear hw'
    go_simp
    with_reducible rfl
  rotate_left
  · simp only [Act.put, List.setIfInBounds_toArray, List.set_cons_zero, List.set_cons_succ, i64_w, i32_w]
    rfl
  refine one_ (i := 0) (N := some 10) #[true, true, true, false, false, false] rfl rfl (by kernel_rfl) (by decide) (fun K hK => ?_)
  refine goes_ Try.func31 (by kernel_rfl) rfl #[.int .u32 827216706] (by rfl) rfl rfl (by (try simp only [List.map_toArray, List.map_cons, List.map_nil]); first | done | rfl) ?_
  refine (word_c 827216706 _ (by decide)).mono ?_
  rintro e w2 ⟨u2, rfl, ho, hb⟩
  refine ⟨_, rfl, ?_⟩
  have HU1 := Aside0.mk ho
  have n0_ := Aside0.mk (below_then (below_drew1 HB.out) HB.out.size hb)
  clear HB
  have HB := n0_
  clear n0_ ho
  obtain ⟨A1, c1, e1⟩ := Kd.R_slice HU1.out
  subst e1
  refine hK.out _ _ ((hb.block w.heap.size (Nat.lt_of_lt_of_le HLT.out HBS.out)).trans hHeld) (fun hHeld => ?_)
  clear hK K
  refine norm_ (a' := ?_) ?_ ?_
  rotate_left
  · show Act.put _ (some 10) _ = _
    simp only [Act.put, List.setIfInBounds_toArray, List.set_cons_zero, List.set_cons_succ, i64_w, i32_w]
    rfl
  refine one_ (i := 3) (N := some 13) #[true, true, true, true, false, false] rfl rfl (by kernel_rfl) (by decide) (fun K hK => ?_)
  refine goes_ Try.func31 (by kernel_rfl) rfl #[.int .u32 (s : Int)] (by rfl) rfl rfl (by (try simp only [List.map_toArray, List.map_cons, List.map_nil]); first | done | rfl) ?_
  refine (word_c s _ hs).mono ?_
  rintro e w3 ⟨u3, rfl, ho, hb3⟩
  refine ⟨_, rfl, ?_⟩
  have HU2 := Aside0.mk ho
  have HU1b := Aside0.mk (Kd.R_below HU1.out hb3)
  have n0_ := Aside0.mk (below_then HB.out HB.out.size hb3)
  have HLT2 := Aside0.mk (Nat.lt_of_lt_of_le HLT.out HB.out.size)
  clear HB
  have HB := n0_
  clear n0_ ho
  obtain ⟨A2, c2, e2⟩ := Kd.R_slice HU2.out
  subst e2
  refine hK.out _ _ ((hb3.block w.heap.size HLT2.out).trans hHeld) (fun hHeld => ?_)
  clear hK K
  refine norm_ (a' := ?_) ?_ ?_
  rotate_left
  · show Act.put _ (some 13) _ = _
    simp only [Act.put, List.setIfInBounds_toArray, List.set_cons_zero, List.set_cons_succ, i64_w, i32_w]
    rfl
  refine one_ (i := 4) (N := some 14) #[true, true, true, true, true, false] rfl rfl (by kernel_rfl) (by decide) (fun K hK => ?_)
  refine Kd.R_append_rows_step (Kd.int .u8) (w0 := W0) W0.heap.size (by rfl) (.tmp 10) (.tmp 13) 24 5 (.int .u8 0) 1 rfl Try.underlying24 info5 rfl (by decide) (by decide) (.slice A1 (le4 827216706).length c1) (le4 827216706) (le4 s) A2 (le4 s).length c2 (fun _ => True) (fun _ => False) rfl rfl ?aO ?aR (fun _ _ h => h) (fun _ h => h.elim) (fun _ _ => trivial) ?aB ?aS ?aL ?_
  case aO => exact Kd.R_lower HU1b.out HBS.out
  case aR => exact (Kd.R_reads' HU2.out).2.2
  case aB => exact HB.out
  case aS => exact HB.out.size
  case aL => rw [le4_len, le4_len]; decide
  intro v0 w4 ho hb4 hg hat
  generalize hL : le4 827216706 ++ le4 s = L0 at ho
  have HO := Aside0.mk ho
  clear HB
  have HB := Aside0.mk hb4
  have HL0 := Aside0.mk hL.symm
  have HLEN := Aside0.mk (show L0.length = 8 by rw [← hL]; rfl)
  clear ho hg hat hL
  refine hK.out _ _ ((hb4.block w.heap.size HLT.out).trans HX0.out) (fun hHeld => ?_)
  clear hK K
  refine norm_ (a' := ?_) ?_ ?_
  rotate_left
  · show Act.put _ (some 14) _ = _
    simp only [Act.put, List.setIfInBounds_toArray, List.set_cons_zero, List.set_cons_succ, i64_w, i32_w]
    rfl
  refine pure_ (i := 5) (N := some 5) (v := ?_) (a' := ?_) #[true, true, true, true, true, true] rfl rfl (by kernel_rfl) (fun _ _ _ h => h) (Or.inl ⟨by rfl, ?_⟩) ?_ ?_
  rotate_left
  · intro w'
    go_simp
    with_reducible rfl
  rotate_left
  · simp only [Act.put, List.setIfInBounds_toArray, List.set_cons_zero, List.set_cons_succ, i64_w, i32_w]
    rfl
  refine done_ (by kernel_rfl) ?_
  clear hb hb3 hb4 hHeld
  have hx : w4.cell? ⟨w.heap.size, 1, none⟩ = some (.int .u32 (f : Int)) := cell_of_row w4 w.heap.size 1 _ 44 (0, 0) ((HB.out.block w.heap.size HLT.out).trans HX0.out)
  go_wp2_with (fail)
  refine (word_c (f) _ hf).mono ?_
  rintro e w5 ⟨u5, rfl, ho, hb⟩
  have HU := Aside0.mk ho
  have n1_ := Aside0.mk (Kd.R_below HO.out hb)
  clear HO
  have HO := n1_
  clear n1_
  have n0_ := Aside0.mk (below_then HB.out HB.out.size hb)
  clear HB
  have HB := n0_
  clear n0_ ho hb
  obtain ⟨Au, cu, eu⟩ := Kd.R_slice HU.out
  subst eu
  try clear hx
  go_wp2_with (first | ((with_reducible refine gate_dst (N := 19) rfl ?_); at_builtin; refine Kd.R_append_rows (Kd.int .u8) (w0 := W0) W0.heap.size rfl (.tmp 15) (.tmp 18) 24 5 (.int .u8 0) 1 rfl Try.underlying24 info5 rfl (by decide) (by decide) v0 L0 (le4 f) Au (le4 f).length cu (fun _ => True) (fun _ => False) rfl rfl ?aO ?aR (fun _ _ h => h) (fun _ h => h.elim) (fun _ _ => trivial) ?aB ?aS ?aL ?_; (case aO => exact HO.out); (case aR => exact (Kd.R_reads' HU.out).2.2); (case aB => exact HB.out); (case aS => exact HB.out.size); (case aL => rw [HLEN.out, le4_len]; decide); intro v1 w6 ho hb hg hat; generalize hL : L0 ++ le4 f = L1 at ho; have HO2 := Aside0.mk (ho); have HB2 := Aside0.mk hb; have HL1 := Aside0.mk hL.symm; have HLEN2 := Aside0.mk (show L1.length = 12 by rw [← hL, List.length_append, HLEN.out, le4_len]); clear HO HB HLEN ho hb hg hat hL; have HO := HO2; have HB := HB2; have HLEN := HLEN2; clear HO2 HB2 HLEN2; (try clear hx); have hx : w6.cell? ⟨w.heap.size, 2, none⟩ = some (.int .u32 (b : Int)) := cell_of_row w6 w.heap.size 2 _ 44 (0, 0) ((HB.out.block w.heap.size HLT.out).trans HX0.out)))
  refine (word_c (b) _ hb0).mono ?_
  rintro e w7 ⟨u7, rfl, ho, hb⟩
  have HU := Aside0.mk ho
  have n1_ := Aside0.mk (Kd.R_below HO.out hb)
  clear HO
  have HO := n1_
  clear n1_
  have n0_ := Aside0.mk (below_then HB.out HB.out.size hb)
  clear HB
  have HB := n0_
  clear n0_ ho hb
  obtain ⟨Au, cu, eu⟩ := Kd.R_slice HU.out
  subst eu
  try clear hx
  go_wp2_with (first | ((with_reducible refine gate_dst (N := 24) rfl ?_); at_builtin; refine Kd.R_append_rows (Kd.int .u8) (w0 := W0) W0.heap.size rfl (.tmp 20) (.tmp 23) 24 5 (.int .u8 0) 1 rfl Try.underlying24 info5 rfl (by decide) (by decide) v1 L1 (le4 b) Au (le4 b).length cu (fun _ => True) (fun _ => False) rfl rfl ?aO ?aR (fun _ _ h => h) (fun _ h => h.elim) (fun _ _ => trivial) ?aB ?aS ?aL ?_; (case aO => exact HO.out); (case aR => exact (Kd.R_reads' HU.out).2.2); (case aB => exact HB.out); (case aS => exact HB.out.size); (case aL => rw [HLEN.out, le4_len]; decide); intro v2 w8 ho hb hg hat; generalize hL : L1 ++ le4 b = L2 at ho; have HO2 := Aside0.mk (ho); have HB2 := Aside0.mk hb; have HL2 := Aside0.mk hL.symm; have HLEN2 := Aside0.mk (show L2.length = 16 by rw [← hL, List.length_append, HLEN.out, le4_len]); clear HO HB HLEN ho hb hg hat hL; have HO := HO2; have HB := HB2; have HLEN := HLEN2; clear HO2 HB2 HLEN2; (try clear hx); have hx : w8.cell? ⟨w.heap.size, 3, none⟩ = some (.int .u32 (m : Int)) := cell_of_row w8 w.heap.size 3 _ 44 (0, 0) ((HB.out.block w.heap.size HLT.out).trans HX0.out)))
  refine (word_c (m) _ hm).mono ?_
  rintro e w9 ⟨u9, rfl, ho, hb⟩
  have HU := Aside0.mk ho
  have n1_ := Aside0.mk (Kd.R_below HO.out hb)
  clear HO
  have HO := n1_
  clear n1_
  have n0_ := Aside0.mk (below_then HB.out HB.out.size hb)
  clear HB
  have HB := n0_
  clear n0_ ho hb
  obtain ⟨Au, cu, eu⟩ := Kd.R_slice HU.out
  subst eu
  try clear hx
  go_wp2_with (first | ((with_reducible refine gate_dst (N := 29) rfl ?_); at_builtin; refine Kd.R_append_rows (Kd.int .u8) (w0 := W0) W0.heap.size rfl (.tmp 25) (.tmp 28) 24 5 (.int .u8 0) 1 rfl Try.underlying24 info5 rfl (by decide) (by decide) v2 L2 (le4 m) Au (le4 m).length cu (fun _ => True) (fun _ => False) rfl rfl ?aO ?aR (fun _ _ h => h) (fun _ h => h.elim) (fun _ _ => trivial) ?aB ?aS ?aL ?_; (case aO => exact HO.out); (case aR => exact (Kd.R_reads' HU.out).2.2); (case aB => exact HB.out); (case aS => exact HB.out.size); (case aL => rw [HLEN.out, le4_len]; decide); intro v3 w10 ho hb hg hat; generalize hL : L2 ++ le4 m = L3 at ho; have HO2 := Aside0.mk (ho); have HB2 := Aside0.mk hb; have HL3 := Aside0.mk hL.symm; have HLEN2 := Aside0.mk (show L3.length = 20 by rw [← hL, List.length_append, HLEN.out, le4_len]); clear HO HB HLEN ho hb hg hat hL; have HO := HO2; have HB := HB2; have HLEN := HLEN2; clear HO2 HB2 HLEN2; (try clear hx); have hx : w10.cell? ⟨w.heap.size, 5, none⟩ = some (.int .u8 (p : Int)) := cell_of_row w10 w.heap.size 5 _ 44 (0, 0) ((HB.out.block w.heap.size HLT.out).trans HX0.out)) | ((with_reducible refine gate_dst (N := 34) rfl ?_); at_builtin; refine print_append_num (w0 := W0) W0.heap.size rfl (.tmp 30) (.tmp 33) 24 5 .u8 1 rfl Try.underlying24 info5 (by decide) v3 L3 ((p : Int)) rfl rfl ?aO ?aB ?aS ?aL ?_; (case aO => exact Kd.own_of_R HO.out); (case aB => exact HB.out); (case aS => exact HB.out.size); (case aL => rw [HLEN.out]; decide); intro v4 w11 ho hb hg hat; generalize hL : L3 ++ [(p : Int)] = L4 at ho; have HO2 := Aside0.mk (show (Kd.int .u8).R 5 w11 W0.heap.size (fun _ => True) v4 L4 from Kd.R_of_own (by simpa [nums, encs] using ho) (fun _ _ => trivial)); have HB2 := Aside0.mk hb; have HL4 := Aside0.mk hL.symm; have HLEN2 := Aside0.mk (show L4.length = 21 by rw [← hL, List.length_append, HLEN.out, List.length_singleton]); clear HO HB HLEN ho hb hg hat hL; have HO := HO2; have HB := HB2; have HLEN := HLEN2; clear HO2 HB2 HLEN2; (try clear hx); have hx : w11.cell? ⟨w.heap.size, 6, none⟩ = some (.slice A n c) := cell_of_row w11 w.heap.size 6 _ 44 (0, 0) ((HB.out.block w.heap.size HLT.out).trans HX0.out)) | ((with_reducible refine gate_dst (N := 41) rfl ?_); at_builtin; refine print_append_num (w0 := W0) W0.heap.size rfl (.tmp 35) (.tmp 40) 24 5 .u8 1 rfl Try.underlying24 info5 (by decide) v4 L4 ((n : Int) % 256) rfl rfl ?aO ?aB ?aS ?aL ?_; (case aO => exact Kd.own_of_R HO.out); (case aB => exact HB.out); (case aS => exact HB.out.size); (case aL => rw [HLEN.out]; decide); intro v5 w12 ho hb hg hat; generalize hL : L4 ++ [(n : Int) % 256] = L5 at ho; have HO2 := Aside0.mk (show (Kd.int .u8).R 5 w12 W0.heap.size (fun _ => True) v5 L5 from Kd.R_of_own (by simpa [nums, encs] using ho) (fun _ _ => trivial)); have HB2 := Aside0.mk hb; have HL5 := Aside0.mk hL.symm; have HLEN2 := Aside0.mk (show L5.length = 22 by rw [← hL, List.length_append, HLEN.out, List.length_singleton]); clear HO HB HLEN ho hb hg hat hL; have HO := HO2; have HB := HB2; have HLEN := HLEN2; clear HO2 HB2 HLEN2; (try clear hx)) | ((with_reducible refine gate_dst (N := 44) rfl ?_); at_builtin; refine print_append_num (w0 := W0) W0.heap.size rfl (.tmp 42) (.tmp 43) 24 5 .u8 1 rfl Try.underlying24 info5 (by decide) v5 L5 (0) rfl rfl ?aO ?aB ?aS ?aL ?_; (case aO => exact Kd.own_of_R HO.out); (case aB => exact HB.out); (case aS => exact HB.out.size); (case aL => rw [HLEN.out]; decide); intro v6 w13 ho hb hg hat; generalize hL : L5 ++ [0] = L6 at ho; have HO2 := Aside0.mk (show (Kd.int .u8).R 5 w13 W0.heap.size (fun _ => True) v6 L6 from Kd.R_of_own (by simpa [nums, encs] using ho) (fun _ _ => trivial)); have HB2 := Aside0.mk hb; have HL6 := Aside0.mk hL.symm; have HLEN2 := Aside0.mk (show L6.length = 23 by rw [← hL, List.length_append, HLEN.out, List.length_singleton]); clear HO HB HLEN ho hb hg hat hL; have HO := HO2; have HB := HB2; have HLEN := HLEN2; clear HO2 HB2 HLEN2; (try clear hx)) | ((with_reducible refine gate_dst (N := 47) rfl ?_); at_builtin; refine print_append_num (w0 := W0) W0.heap.size rfl (.tmp 45) (.tmp 46) 24 5 .u8 1 rfl Try.underlying24 info5 (by decide) v6 L6 (0) rfl rfl ?aO ?aB ?aS ?aL ?_; (case aO => exact Kd.own_of_R HO.out); (case aB => exact HB.out); (case aS => exact HB.out.size); (case aL => rw [HLEN.out]; decide); intro v7 w14 ho hb hg hat; generalize hL : L6 ++ [0] = L7 at ho; have HO2 := Aside0.mk (show (Kd.int .u8).R 5 w14 W0.heap.size (fun _ => True) v7 L7 from Kd.R_of_own (by simpa [nums, encs] using ho) (fun _ _ => trivial)); have HB2 := Aside0.mk hb; have HL7 := Aside0.mk hL.symm; have HLEN2 := Aside0.mk (show L7.length = 24 by rw [← hL, List.length_append, HLEN.out, List.length_singleton]); clear HO HB HLEN ho hb hg hat hL; have HO := HO2; have HB := HB2; have HLEN := HLEN2; clear HO2 HB2 HLEN2; (try clear hx); have hx : w14.cell? ⟨w.heap.size, 4, none⟩ = some (.int .u32 (d : Int)) := cell_of_row w14 w.heap.size 4 _ 44 (0, 0) ((HB.out.block w.heap.size HLT.out).trans HX0.out)))
  refine (word_c (d) _ hd).mono ?_
  rintro e w15 ⟨u15, rfl, ho, hb⟩
  have HU := Aside0.mk ho
  have n1_ := Aside0.mk (Kd.R_below HO.out hb)
  clear HO
  have HO := n1_
  clear n1_
  have n0_ := Aside0.mk (below_then HB.out HB.out.size hb)
  clear HB
  have HB := n0_
  clear n0_ ho hb
  obtain ⟨Au, cu, eu⟩ := Kd.R_slice HU.out
  subst eu
  try clear hx
  go_wp2_with (first | ((with_reducible refine gate_dst (N := 52) rfl ?_); at_builtin; refine Kd.R_append_rows (Kd.int .u8) (w0 := W0) W0.heap.size rfl (.tmp 48) (.tmp 51) 24 5 (.int .u8 0) 1 rfl Try.underlying24 info5 rfl (by decide) (by decide) v7 L7 (le4 d) Au (le4 d).length cu (fun _ => True) (fun _ => False) rfl rfl ?aO ?aR (fun _ _ h => h) (fun _ h => h.elim) (fun _ _ => trivial) ?aB ?aS ?aL ?_; (case aO => exact HO.out); (case aR => exact (Kd.R_reads' HU.out).2.2); (case aB => exact HB.out); (case aS => exact HB.out.size); (case aL => rw [HLEN.out, le4_len]; decide); intro v8 w16 ho hb hg hat; generalize hL : L7 ++ le4 d = L8 at ho; have HO2 := Aside0.mk (ho); have HB2 := Aside0.mk hb; have HL8 := Aside0.mk hL.symm; have HLEN2 := Aside0.mk (show L8.length = 28 by rw [← hL, List.length_append, HLEN.out, le4_len]); clear HO HB HLEN ho hb hg hat hL; have HO := HO2; have HB := HB2; have HLEN := HLEN2; clear HO2 HB2 HLEN2; (try clear hx); have hx : w16.cell? ⟨w.heap.size, 6, none⟩ = some (.slice A n c) := cell_of_row w16 w.heap.size 6 _ 44 (0, 0) ((HB.out.block w.heap.size HLT.out).trans HX0.out)) | ((with_reducible refine gate_dst (N := 56) rfl ?_); at_builtin; refine Kd.R_append_rows (Kd.int .u8) (w0 := W0) W0.heap.size rfl (.tmp 53) (.tmp 55) 24 5 (.int .u8 0) 1 rfl Try.underlying24 info5 rfl (by decide) (by decide) v8 L8 (xs) A n c (fun _ => True) (fun _ => False) rfl rfl ?aO ?aR (fun _ _ h => h) (fun _ h => h.elim) (fun _ _ => trivial) ?aB ?aS ?aL ?_; (case aO => exact HO.out); (case aR => exact Kd.C_below HR.out (below_step HW0.out HB.out)); (case aB => exact HB.out); (case aS => exact HB.out.size); (case aL => rw [HLEN.out]; have := HN8.out; omega); intro v9 w17 ho hb hg hat; generalize hL : L8 ++ xs = L9 at ho; have HO2 := Aside0.mk (ho); have HB2 := Aside0.mk hb; have HL9 := Aside0.mk hL.symm; have HLEN2 := Aside0.mk (show L9.length = 28 + n by rw [← hL, List.length_append, HLEN.out, HN.out]); clear HO HB HLEN ho hb hg hat hL; have HO := HO2; have HB := HB2; have HLEN := HLEN2; clear HO2 HB2 HLEN2; (try clear hx)))
  have HHD := Aside0.mk (show L9 = head s f b m p d n ++ xs by
    rw [HL9.out, HL8.out, HL7.out, HL6.out, HL5.out, HL4.out, HL3.out, HL2.out, HL1.out, HL0.out, head_eq]
    simp [heads, fld])
  rw [HHD.out] at HO HLEN
  have HHL := Aside0.mk (show (head s f b m p d n ++ xs).length = 28 + n from HLEN.out)
  clear HL9 HL8 HL7 HL6 HL5 HL4 HL3 HL2 HL1 HL0 HHD HLEN
  generalize hHH : head s f b m p d n ++ xs = HH at HO HHL
  have HHE := Aside0.mk hHH
  clear hHH
  go_loopg [5] (128 - n) (fun gk v wr => RefAt HH W0 (128 - n) gk v wr)
  case atStart => exact ⟨0, rfl, by rw [List.replicate_zero, List.append_nil]; exact HO.out, HB.out⟩
  case round =>
    clear HO HB
    obtain ⟨j, hj, ho, hb⟩ := hrel
    have HO := Aside0.mk ho
    have HB := Aside0.mk hb
    have HJ := Aside0.mk hj
    clear ho hb hj
    have HLN := Aside0.mk (show (HH ++ List.replicate j 0).length = 28 + n + j by rw [List.length_append, HHL.out, List.length_replicate])
    have HST := Aside0.mk (show HH ++ List.replicate (j + 1) 0 = HH ++ List.replicate j 0 ++ [0] by rw [List.append_assoc, ← List.replicate_append_replicate (n := j) (m := 1)]; rfl)
    generalize hL : HH ++ List.replicate j 0 = L at *
    have HLE := Aside0.mk hL
    clear hL
    have hll : L.length = 28 + n + j := HLN.out
    obtain ⟨Av, cv, ev⟩ := Kd.R_slice HO.out
    cases gk with
    | zero =>
      have h156 : decide ((L.length : Int) < 156) = false := decide_eq_false (by have := HJ.out; have := HN8.out; omega)
      have HL156 := Aside0.mk (show L.length = 156 by have := HJ.out; have := HN8.out; omega)
      have HLB := Aside0.mk (show L = body s f b m p d xs by
        have h1 := HJ.out
        rw [← HLE.out, ← HHE.out, HN.out, show j = 128 - xs.length by rw [← HN.out]; omega]
        rfl)
      clear hll
      subst ev
      go_wp2_with (fail)
      refine (ref_sum_of Av L.length cv L _ rfl (Kd.R_reads' HO.out).2.2 (by rw [HLB.out]; exact bytes_body hp HBY.out)).mono ?_
      rintro e wA ⟨rfl, hb⟩
      have n1_ := Aside0.mk (Kd.R_below HO.out hb)
      have n0_ := Aside0.mk (below_then HB.out HB.out.size hb)
      clear HO HB hb
      have HO := n1_
      have HB := n0_
      clear n0_ n1_
      go_wp2_with (fail)
      refine (word_c (rsum L) _ (rsum_lt _)).mono ?_
      rintro e wB ⟨u, rfl, ho, hb⟩
      have HU := Aside0.mk ho
      have n1_ := Aside0.mk (Kd.R_below HO.out hb)
      have n0_ := Aside0.mk (below_then HB.out HB.out.size hb)
      clear HO HB hb ho
      have HO := n1_
      have HB := n0_
      clear n0_ n1_
      obtain ⟨Au, cu, eu⟩ := Kd.R_slice HU.out
      subst eu
      go_wp2_with ((with_reducible refine gate_dst (N := 67) rfl ?_); at_builtin; refine Kd.R_append_rows (Kd.int .u8) (w0 := W0) W0.heap.size rfl (.tmp 63) (.tmp 66) 24 5 (.int .u8 0) 1 rfl Try.underlying24 info5 rfl (by decide) (by decide) (.slice Av L.length cv) L (le4 (rsum L)) Au (le4 (rsum L)).length cu (fun _ => True) (fun _ => False) rfl rfl ?aO ?aR (fun _ _ h => h) (fun _ h => h.elim) (fun _ _ => trivial) ?aB ?aS ?aL ?_; (case aO => exact HO.out); (case aR => exact (Kd.R_reads' HU.out).2.2); (case aB => exact HB.out); (case aS => exact HB.out.size); (case aL => rw [HL156.out, le4_len]; decide); intro vZ wZ ho hb hg hat; have HOZ := Aside0.mk ho; have HBZ := Aside0.mk hb; clear ho hb hg hat)
      go_ret2
      refine ⟨_, rfl, ?_, below_step HW0.out HBZ.out⟩
      have h := HOZ.out
      rw [HLB.out] at h
      exact Kd.R_lower h (Nat.le_of_lt HLT.out)
    | succ gk =>
      have h156 : decide ((L.length : Int) < 156) = true := decide_eq_true (by have := HJ.out; have := HN8.out; omega)
      have HL1 := Aside0.mk (show L.length < 156 by have := HJ.out; have := HN8.out; omega)
      clear hll
      subst ev
      go_wp2_with ((with_reducible refine gate_dst (N := 62) rfl ?_); at_builtin; refine print_append_num (w0 := W0) W0.heap.size rfl (.tmp 60) (.tmp 61) 24 5 .u8 1 rfl Try.underlying24 info5 (by decide) (.slice Av L.length cv) L 0 rfl rfl ?aO ?aB ?aS ?aL ?_; (case aO => exact Kd.own_of_R HO.out); (case aB => exact HB.out); (case aS => exact HB.out.size); (case aL => have := HL1.out; omega); intro vZ wZ ho hb hg hat; have HOZ := Aside0.mk (show (Kd.int .u8).R 5 wZ W0.heap.size (fun _ => True) vZ (L ++ [0]) from Kd.R_of_own (by simpa [nums, encs] using ho) (fun _ _ => trivial)); have HBZ := Aside0.mk hb; clear ho hb hg hat)
      go_roundg gk
      case measure => omega
      case rel => exact ⟨j + 1, by have := HJ.out; omega, by rw [HST.out]; exact HOZ.out, HBZ.out⟩
end Go.Proofs.Ytjblklejjemdhaa.Krec
