/- The reference's Parse, walked: what it answers where the bytes are those of no right record. -/
import Derived.Test.YtjblklejjemdhaaKrecI
namespace Go.Proofs.Ytjblklejjemdhaa.Krec
set_option linter.unusedVariables false
set_option linter.unusedSimpArgs false
open Go.RowKit Go.Proofs.YtjblklejjemdhaaW.PrintWords Go.Proofs.YtjblklejjemdhaaW.PrintLast Go.Proofs.YtjblklejjemdhaaW.PrintMore Kbase Kcrc
def zero44 : Array Value := #[.int .u32 0, .int .u32 0, .int .u32 0, .int .u32 0, .int .u32 0, .int .u8 0, .slice none 0 0]
theorem zero44_one : zero44.all (·.oneCell') = true := by decide +kernel
theorem run_alloc44 (W : World) : (Instr.alloc 44 true (.tuple #[])).run Try.prog W = .ok (.pointer (some ⟨W.heap.size, 0, none⟩)) (W.alloc (.cells zero44 44)) := by kernel_rfl
section
variable {ops : Array Oper} {rest : List Oper} {o : Oper} {a : Act} {Q : Exit → Act → World → Prop} {W : World}
theorem event_alloc44 (ho : o.op = .alloc 44) : (execOp a.eval o).run Try.prog W = .ok (.value (.pointer (some ⟨W.heap.size, 0, none⟩))) (W.alloc (.cells zero44 44)) := by
  unfold execOp
  rw [ho]
  simp only [Sem.run_bind, run_alloc44]
  rfl
theorem alloc44 (N : Tmp) (hd : o.dst = some N) (hgd : o.guard = none) (ho : o.op = .alloc 44) (h : wpList Try.prog ops Q rest (a.put (some N) (.pointer (some ⟨W.heap.size, 0, none⟩))) (W.alloc (.cells zero44 44))) : wpList Try.prog ops Q (o :: rest) a W := by
  rw [← hd] at h
  exact Kd.event_run hgd (event_alloc44 ho) h
end
/-- The two results, the first of which lies in a block. -/
theorem results27 {tmps : Array Value} {W : World} {g : Nat} {cs : Array Value} {v : Value} (hp : tmps.getD 2 undef = .pointer (some ⟨g, 0, none⟩)) (hv : tmps.getD 3 undef = v) (hg : W.heap[g]? = some (.cells cs 44 (0, 0))) (hi : cs.size = 7) :
    (results Try.f27 tmps).run Try.prog W = .ok (.tuple #[.agg cs, v]) W := by
  have hload := run_loadVar_row (P := Try.prog) W g 44 44 cs (0, 0) _ hg Try.underlying44 rfl (by rw [hi]; kernel_rfl)
  have hp' : tmps[2]?.getD undef = .pointer (some ⟨g, 0, none⟩) := by simpa using hp
  have hv' : tmps[3]?.getD undef = v := by simpa using hv
  simp [results, Try.results27, asAddr, hp', hv', hload]
set_option maxHeartbeats 1000000 in
set_option maxRecDepth 100000 in
theorem rparse_len (A : Option Addr) (n c : Nat) (w : World) (hn : n ≠ 160) :
    Calls Try.prog 27 #[.slice A n c] w fun e w' => e = .returned (.tuple #[.agg zero44, .int .i64 7]) ∧ Below w.heap.size w w' := by
  have hq : ((n : Int) != 160) = true := by rw [bne_iff_ne]; omega
  have HZ := Aside0.mk (heap_alloc_new w (.cells zero44 44))
  have HX := Aside0.mk hn
  clear hn
  go_enter Try.func27, Try.ntmps27
  go_wp2_with (first | ((with_reducible refine gate_dst (N := 2) rfl ?_); refine alloc44 2 rfl rfl rfl ?_) | (refine wpList_store_row rfl 44 (.tmp 2) (.tmp 18) rfl w.heap.size zero44 rfl rfl 44 zero44 (HZ.out) (by kernel_rfl) rfl zero44_one ?_))
  exact bodyPost_ret (v := .tuple #[.agg zero44, .int .i64 7]) (results27 rfl rfl (setRow_heap _ _ _ _ _ _ HZ.out) rfl) rfl ⟨rfl, below_setRow (below_alloc (Below.refl _ _) _) (Nat.le_refl _) _⟩
set_option maxHeartbeats 1000000 in
set_option maxRecDepth 100000 in
theorem rparse_mark (g c : Nat) (bs : List Int) (w : World) (hl : bs.length = 160) (hr : (Kd.int .u8).C w (some ⟨g, 0, none⟩) 160 bs) (hby : Bytes bs) (hc : 160 ≤ c) (h0 : num bs 0 ≠ 827216706) :
    Calls Try.prog 27 #[.slice (some ⟨g, 0, none⟩) 160 c] w fun e w' => e = .returned (.tuple #[.agg zero44, .int .i64 7]) ∧ Below w.heap.size w w' := by
  have h4c : ¬ c = 4 := by omega
  have h8c : ¬ c = 8 := by omega
  have h12c : ¬ c = 12 := by omega
  have h16c : ¬ c = 16 := by omega
  have h24c : ¬ c = 24 := by omega
  have h28c : ¬ c = 28 := by omega
  have h156c : ¬ c = 156 := by omega
  have h4i : (4 : Int) ≤ (c : Int) := by omega
  have h8i : (8 : Int) ≤ (c : Int) := by omega
  have h12i : (12 : Int) ≤ (c : Int) := by omega
  have h16i : (16 : Int) ≤ (c : Int) := by omega
  have h20i : (20 : Int) ≤ (c : Int) := by omega
  have h28i : (28 : Int) ≤ (c : Int) := by omega
  have h156i : (156 : Int) ≤ (c : Int) := by omega
  have HR := Aside0.mk hr
  have HBY := Aside0.mk hby
  have HL := Aside0.mk hl
  clear hr hby hl
  have HZ0 := Aside0.mk (heap_alloc_new w (.cells zero44 44))
  have HLT := Aside0.mk (show w.heap.size < (w.alloc (.cells zero44 44)).heap.size by simp)
  have HW0 := Aside0.mk (below_alloc (Below.refl w.heap.size w) (.cells zero44 44))
  go_enter Try.func27, Try.ntmps27
  go_wp2_with ((with_reducible refine gate_dst (N := 2) rfl ?_); refine alloc44 2 rfl rfl rfl ?_)
  have HR0 := Aside0.mk (Kd.C_alloc HR.out (.cells zero44 44))
  generalize w.alloc (.cells zero44 44) = W0 at *
  have HB := Aside0.mk (Below.refl W0.heap.size W0)
  refine (ref_num_c g 0 4 c bs 0 _ (by rw [HL.out]; exact Kd.C_below HR0.out HB.out) HBY.out rfl (by rw [HL.out]; decide) (by decide) (by decide)).mono ?_
  rintro e w1 ⟨rfl, hb⟩
  have n0_ := Aside0.mk (below_then HB.out HB.out.size hb)
  clear HB
  have HB := n0_
  clear n0_ hb
  have hq : (((num bs 0 : Nat) : Int) != 827216706) = true := by rw [bne_iff_ne]; omega
  clear h0
  have HZ := Aside0.mk ((HB.out.block w.heap.size HLT.out).trans HZ0.out)
  go_wp2_with (refine wpList_store_row rfl 44 (.tmp 2) (.tmp 18) rfl w.heap.size zero44 rfl rfl 44 zero44 (HZ.out) (by kernel_rfl) rfl zero44_one ?_)
  exact bodyPost_ret (v := .tuple #[.agg zero44, .int .i64 7]) (results27 rfl rfl (setRow_heap _ _ _ _ _ _ HZ.out) rfl) rfl ⟨rfl, below_setRow (below_step HW0.out HB.out) (Nat.le_refl _) _⟩
set_option maxHeartbeats 1000000 in
set_option maxRecDepth 100000 in
theorem rparse_sum (g c : Nat) (bs : List Int) (w : World) (hl : bs.length = 160) (hr : (Kd.int .u8).C w (some ⟨g, 0, none⟩) 160 bs) (hby : Bytes bs) (hc : 160 ≤ c) (h0 : num bs 0 = 827216706) (h1 : rsum (bs.take 156) ≠ num bs 156) :
    Calls Try.prog 27 #[.slice (some ⟨g, 0, none⟩) 160 c] w fun e w' => e = .returned (.tuple #[.agg zero44, .int .i64 8]) ∧ Below w.heap.size w w' := by
  have H1 := Aside0.mk h1
  clear h1
  have H0 := Aside0.mk h0
  clear h0
  have h4c : ¬ c = 4 := by omega
  have h8c : ¬ c = 8 := by omega
  have h12c : ¬ c = 12 := by omega
  have h16c : ¬ c = 16 := by omega
  have h24c : ¬ c = 24 := by omega
  have h28c : ¬ c = 28 := by omega
  have h156c : ¬ c = 156 := by omega
  have h4i : (4 : Int) ≤ (c : Int) := by omega
  have h8i : (8 : Int) ≤ (c : Int) := by omega
  have h12i : (12 : Int) ≤ (c : Int) := by omega
  have h16i : (16 : Int) ≤ (c : Int) := by omega
  have h20i : (20 : Int) ≤ (c : Int) := by omega
  have h28i : (28 : Int) ≤ (c : Int) := by omega
  have h156i : (156 : Int) ≤ (c : Int) := by omega
  have HR := Aside0.mk hr
  have HBY := Aside0.mk hby
  have HL := Aside0.mk hl
  clear hr hby hl
  have HZ0 := Aside0.mk (heap_alloc_new w (.cells zero44 44))
  have HLT := Aside0.mk (show w.heap.size < (w.alloc (.cells zero44 44)).heap.size by simp)
  have HW0 := Aside0.mk (below_alloc (Below.refl w.heap.size w) (.cells zero44 44))
  go_enter Try.func27, Try.ntmps27
  go_wp2_with ((with_reducible refine gate_dst (N := 2) rfl ?_); refine alloc44 2 rfl rfl rfl ?_)
  have HR0 := Aside0.mk (Kd.C_alloc HR.out (.cells zero44 44))
  generalize w.alloc (.cells zero44 44) = W0 at *
  have HB := Aside0.mk (Below.refl W0.heap.size W0)
  refine (ref_num_c g 0 4 c bs 0 _ (by rw [HL.out]; exact Kd.C_below HR0.out HB.out) HBY.out rfl (by rw [HL.out]; decide) (by decide) (by decide)).mono ?_
  rintro e w1 ⟨rfl, hb⟩
  have n0_ := Aside0.mk (below_then HB.out HB.out.size hb)
  clear HB
  have HB := n0_
  clear n0_ hb
  rw [H0.out]
  go_upto_region 3 with (fail)
  refine start_ (n := 7) (S := (fun w' => Below W0.heap.size W0 w')) (ds := []) #[false, false, false, false, false, false, false] (by kernel_rfl) rfl rfl (below_drew1 HB.out) (fun hHeld => ?_)
  refine pure_ (i := 0) (N := some 19) (v := ?_) (a' := ?_) #[true, false, false, false, false, false, false] rfl rfl (by kernel_rfl) (fun _ _ _ h => h) (Or.inl ⟨by rfl, ?_⟩) ?_ ?_
  rotate_left
  · intro w'
    go_simp
    with_reducible rfl
  rotate_left
  · simp only [Act.put, List.setIfInBounds_toArray, List.set_cons_zero, List.set_cons_succ, i64_w, i32_w]
    rfl
  refine pure_ (i := 1) (N := some 20) (v := ?_) (a' := ?_) #[true, true, false, false, false, false, false] rfl rfl (by kernel_rfl) (fun _ _ _ h => h) (Or.inl ⟨by rfl, ?_⟩) ?_ ?_
  rotate_left
  · intro w'
    go_simp
    with_reducible rfl
  rotate_left
  · simp only [Act.put, List.setIfInBounds_toArray, List.set_cons_zero, List.set_cons_succ, i64_w, i32_w]
    rfl
  refine pure_ (i := 3) (N := some 22) (v := ?_) (a' := ?_) #[true, true, false, true, false, false, false] rfl rfl (by kernel_rfl) (fun _ _ _ h => h) (Or.inl ⟨by rfl, ?_⟩) ?_ ?_
  rotate_left
  · intro w'
    go_simp
    with_reducible rfl
  rotate_left
  · simp only [Act.put, List.setIfInBounds_toArray, List.set_cons_zero, List.set_cons_succ, i64_w, i32_w]
    rfl
  refine pure_ (i := 4) (N := some 23) (v := ?_) (a' := ?_) #[true, true, false, true, true, false, false] rfl rfl (by kernel_rfl) (fun _ _ _ h => h) (Or.inl ⟨by rfl, ?_⟩) ?_ ?_
  rotate_left
  · intro w'
    go_simp
    with_reducible rfl
  rotate_left
  · simp only [Act.put, List.setIfInBounds_toArray, List.set_cons_zero, List.set_cons_succ, i64_w, i32_w]
    rfl
  refine one_ (i := 2) (N := some 21) #[true, true, true, true, true, false, false] rfl rfl (by kernel_rfl) (by decide) (fun K hK => ?_)
  refine goes_ Try.func33 (by kernel_rfl) rfl #[.slice (some ⟨g, 156, none⟩) 4 (c - 156)] (by rfl) rfl rfl (by (try simp only [List.map_toArray, List.map_cons, List.map_nil]); first | done | rfl) ?_
  refine (ref_num_c g 156 4 (c - 156) bs 156 _ (by rw [HL.out]; exact Kd.C_below HR0.out hHeld) HBY.out rfl (by rw [HL.out]; decide) (by decide) (by decide)).mono ?_
  rintro e w2 ⟨rfl, hb⟩
  refine ⟨_, rfl, ?_⟩
  refine hK.out _ _ (below_then hHeld hHeld.size hb) (fun hHeld => ?_)
  clear hK K
  refine norm_ (a' := ?_) ?_ ?_
  rotate_left
  · show Act.put _ (some 21) _ = _
    simp only [Act.put, List.setIfInBounds_toArray, List.set_cons_zero, List.set_cons_succ, i64_w, i32_w]
    rfl
  refine one_ (i := 5) (N := some 24) #[true, true, true, true, true, true, false] rfl rfl (by kernel_rfl) (by decide) (fun K hK => ?_)
  refine goes_ Try.func26 (by kernel_rfl) rfl #[.slice (some ⟨g, 0, none⟩) 156 c] (by rfl) rfl rfl (by (try simp only [List.map_toArray, List.map_cons, List.map_nil]); first | done | rfl) ?_
  refine (ref_sum_of (some ⟨g, 0, none⟩) 156 c (bs.take 156) _ (by rw [List.length_take, HL.out]; rfl) (C_take (Kd.C_below HR0.out hHeld) 156 (by decide)) (fun n hn => HBY.out n (List.mem_of_mem_take hn))).mono ?_
  rintro e w3 ⟨rfl, hb⟩
  refine ⟨_, rfl, ?_⟩
  refine hK.out _ _ (below_then hHeld hHeld.size hb) (fun hHeld => ?_)
  clear hK K
  refine norm_ (a' := ?_) ?_ ?_
  rotate_left
  · show Act.put _ (some 24) _ = _
    simp only [Act.put, List.setIfInBounds_toArray, List.set_cons_zero, List.set_cons_succ, i64_w, i32_w]
    rfl
  refine pure_ (i := 6) (N := some 25) (v := ?_) (a' := ?_) #[true, true, true, true, true, true, true] rfl rfl (by kernel_rfl) (fun _ _ _ h => h) (Or.inl ⟨by rfl, ?_⟩) ?_ ?_
  rotate_left
  · intro w'
    have hq : (((num bs 156 : Nat) : Int) != ((rsum (bs.take 156) : Nat) : Int)) = true := by rw [bne_iff_ne]; have := H1.out; omega
    go_simp
    with_reducible rfl
  rotate_left
  · simp only [Act.put, List.setIfInBounds_toArray, List.set_cons_zero, List.set_cons_succ, i64_w, i32_w]
    rfl
  refine done_ (by kernel_rfl) ?_
  have n0_ := Aside0.mk hHeld
  clear HB
  have HB := n0_
  clear n0_
  have HZ := Aside0.mk ((HB.out.block w.heap.size HLT.out).trans HZ0.out)
  go_wp2_with (refine wpList_store_row rfl 44 (.tmp 2) (.tmp 26) rfl w.heap.size zero44 rfl rfl 44 zero44 (HZ.out) (by kernel_rfl) rfl zero44_one ?_)
  exact bodyPost_ret (v := .tuple #[.agg zero44, .int .i64 8]) (results27 rfl rfl (setRow_heap _ _ _ _ _ _ HZ.out) rfl) rfl ⟨rfl, below_setRow (below_step HW0.out HB.out) (Nat.le_refl _) _⟩
end Go.Proofs.Ytjblklejjemdhaa.Krec
