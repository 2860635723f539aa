/- The record's Parse, walked: what it answers where the bytes are those of no right record. -/
import Derived.Test.YtjblklejjemdhaaKrecF
namespace Go.Proofs.Ytjblklejjemdhaa.Krec
set_option linter.unusedVariables false
set_option linter.unusedSimpArgs false
open Go.RowKit Go.Proofs.YtjblklejjemdhaaW.PrintWords Go.Proofs.YtjblklejjemdhaaW.PrintLast Go.Proofs.YtjblklejjemdhaaW.PrintMore Kbase Kcrc
def zero37 : Array Value := #[.int .u32 0, .int .u32 0, .int .u32 0, .int .u32 0, .int .u8 0, .int .u32 0, .slice none 0 0]
theorem zero37_one : zero37.all (·.oneCell') = true := by decide +kernel
theorem run_alloc37 (W : World) : (Instr.alloc 37 true (.tuple #[])).run Try.prog W = .ok (.pointer (some ⟨W.heap.size, 0, none⟩)) (W.alloc (.cells zero37 37)) := by kernel_rfl
section
variable {ops : Array Oper} {rest : List Oper} {o : Oper} {a : Act} {Q : Exit → Act → World → Prop} {W : World}
theorem event_alloc37 (ho : o.op = .alloc 37) : (execOp a.eval o).run Try.prog W = .ok (.value (.pointer (some ⟨W.heap.size, 0, none⟩))) (W.alloc (.cells zero37 37)) := by
  unfold execOp
  rw [ho]
  simp only [Sem.run_bind, run_alloc37]
  rfl
theorem alloc37 (N : Tmp) (hd : o.dst = some N) (hgd : o.guard = none) (ho : o.op = .alloc 37) (h : wpList Try.prog ops Q rest (a.put (some N) (.pointer (some ⟨W.heap.size, 0, none⟩))) (W.alloc (.cells zero37 37))) : wpList Try.prog ops Q (o :: rest) a W := by
  rw [← hd] at h
  exact Kd.event_run hgd (event_alloc37 ho) h
end
/-- The two results, the first of which lies in a block. -/
theorem results25 {tmps : Array Value} {W : World} {g : Nat} {cs : Array Value} {v : Value} (hp : tmps.getD 2 undef = .pointer (some ⟨g, 0, none⟩)) (hv : tmps.getD 3 undef = v) (hg : W.heap[g]? = some (.cells cs 37 (0, 0))) (hi : cs.size = 7) :
    (results Try.f25 tmps).run Try.prog W = .ok (.tuple #[.agg cs, v]) W := by
  have hload := run_loadVar_row (P := Try.prog) W g 37 37 cs (0, 0) _ hg Try.underlying37 rfl (by rw [hi]; kernel_rfl)
  have hp' : tmps[2]?.getD undef = .pointer (some ⟨g, 0, none⟩) := by simpa using hp
  have hv' : tmps[3]?.getD undef = v := by simpa using hv
  simp [results, Try.results25, asAddr, hp', hv', hload]
theorem C_take {W : World} {g n : Nat} {k : IntKind} {xs : List Int} (h : (Kd.int k).C W (some ⟨g, 0, none⟩) n xs) (m : Nat) (hm : m ≤ n) : (Kd.int k).C W (some ⟨g, 0, none⟩) m (xs.take m) := by
  have := C_sub h 0 m (by omega)
  rwa [List.drop_zero] at this
set_option maxHeartbeats 1000000 in
set_option maxRecDepth 100000 in
theorem parse_len (A : Option Addr) (n c : Nat) (w : World) (hn : n ≠ 160) :
    Calls Try.prog 25 #[.slice A n c] w fun e w' => e = .returned (.tuple #[.agg zero37, .int .i64 7]) ∧ Below w.heap.size w w' := by
  have hq : ((n : Int) != 160) = true := by rw [bne_iff_ne]; omega
  have HZ := Aside0.mk (heap_alloc_new w (.cells zero37 37))
  have HX := Aside0.mk hn
  clear hn
  go_enter Try.func25, Try.ntmps25
  go_wp2_with (first | ((with_reducible refine gate_dst (N := 2) rfl ?_); refine alloc37 2 rfl rfl rfl ?_) | (refine wpList_store_row rfl 37 (.tmp 2) (.tmp 16) rfl w.heap.size zero37 rfl rfl 37 zero37 (HZ.out) (by kernel_rfl) rfl zero37_one ?_))
  exact bodyPost_ret (v := .tuple #[.agg zero37, .int .i64 7]) (results25 rfl rfl (setRow_heap _ _ _ _ _ _ HZ.out) rfl) rfl ⟨rfl, below_setRow (below_alloc (Below.refl _ _) _) (Nat.le_refl _) _⟩
set_option maxHeartbeats 1000000 in
set_option maxRecDepth 100000 in
theorem parse_mark (g c : Nat) (bs : List Int) (w : World) (hl : bs.length = 160) (hr : (Kd.int .u8).C w (some ⟨g, 0, none⟩) 160 bs) (hby : Bytes bs) (hc : 160 ≤ c) (h0 : num bs 0 ≠ 827216706) :
    Calls Try.prog 25 #[.slice (some ⟨g, 0, none⟩) 160 c] w fun e w' => e = .returned (.tuple #[.agg zero37, .int .i64 7]) ∧ Below w.heap.size w w' := by
  have HR := Aside0.mk hr
  have HBY := Aside0.mk hby
  have HL := Aside0.mk hl
  clear hr hby hl
  have HZ0 := Aside0.mk (heap_alloc_new w (.cells zero37 37))
  have HLT := Aside0.mk (show w.heap.size < (w.alloc (.cells zero37 37)).heap.size by simp)
  have HW0 := Aside0.mk (below_alloc (Below.refl w.heap.size w) (.cells zero37 37))
  go_enter Try.func25, Try.ntmps25
  go_wp2_with ((with_reducible refine gate_dst (N := 2) rfl ?_); refine alloc37 2 rfl rfl rfl ?_)
  have HR0 := Aside0.mk (Kd.C_alloc HR.out (.cells zero37 37))
  generalize w.alloc (.cells zero37 37) = W0 at *
  have HB := Aside0.mk (Below.refl W0.heap.size W0)
  refine (get_c g 160 c bs 0 0 _ rfl HL.out.symm (Kd.C_below HR0.out HB.out) HBY.out (by decide) (by decide)).mono ?_
  rintro e w1 ⟨rfl, hb⟩
  have n0_ := Aside0.mk (below_then HB.out HB.out.size hb)
  clear HB
  have HB := n0_
  clear n0_ hb
  have hq : (((num bs 0 : Nat) : Int) != 827216706) = true := by rw [bne_iff_ne]; omega
  clear h0
  have HZ := Aside0.mk ((HB.out.block w.heap.size HLT.out).trans HZ0.out)
  go_wp2_with (refine wpList_store_row rfl 37 (.tmp 2) (.tmp 16) rfl w.heap.size zero37 rfl rfl 37 zero37 (HZ.out) (by kernel_rfl) rfl zero37_one ?_)
  exact bodyPost_ret (v := .tuple #[.agg zero37, .int .i64 7]) (results25 rfl rfl (setRow_heap _ _ _ _ _ _ HZ.out) rfl) rfl ⟨rfl, below_setRow (below_step HW0.out HB.out) (Nat.le_refl _) _⟩
set_option maxHeartbeats 1000000 in
set_option maxRecDepth 100000 in
theorem parse_sum (g c : Nat) (bs : List Int) (w : World) (hl : bs.length = 160) (hr : (Kd.int .u8).C w (some ⟨g, 0, none⟩) 160 bs) (hby : Bytes bs) (hc : 160 ≤ c) (h0 : num bs 0 = 827216706) (h1 : rsum (bs.take 156) ≠ num bs 156) :
    Calls Try.prog 25 #[.slice (some ⟨g, 0, none⟩) 160 c] w fun e w' => e = .returned (.tuple #[.agg zero37, .int .i64 8]) ∧ Below w.heap.size w w' := by
  have H0 := Aside0.mk h0
  clear h0
  have HR := Aside0.mk hr
  have HBY := Aside0.mk hby
  have HL := Aside0.mk hl
  clear hr hby hl
  have HZ0 := Aside0.mk (heap_alloc_new w (.cells zero37 37))
  have HLT := Aside0.mk (show w.heap.size < (w.alloc (.cells zero37 37)).heap.size by simp)
  have HW0 := Aside0.mk (below_alloc (Below.refl w.heap.size w) (.cells zero37 37))
  go_enter Try.func25, Try.ntmps25
  go_wp2_with ((with_reducible refine gate_dst (N := 2) rfl ?_); refine alloc37 2 rfl rfl rfl ?_)
  have HR0 := Aside0.mk (Kd.C_alloc HR.out (.cells zero37 37))
  generalize w.alloc (.cells zero37 37) = W0 at *
  have HB := Aside0.mk (Below.refl W0.heap.size W0)
  refine (get_c g 160 c bs 0 0 _ rfl HL.out.symm (Kd.C_below HR0.out HB.out) HBY.out (by decide) (by decide)).mono ?_
  rintro e w1 ⟨rfl, hb⟩
  have n0_ := Aside0.mk (below_then HB.out HB.out.size hb)
  clear HB
  have HB := n0_
  clear n0_ hb
  rw [H0.out]
  go_wp2_with (fail)
  refine (sum_of (some ⟨g, 0, none⟩) 156 c (bs.take 156) _ (by rw [List.length_take, HL.out]; rfl) (C_take (Kd.C_below HR0.out HB.out) 156 (by decide)) (by omega) (fun n hn => HBY.out n (List.mem_of_mem_take hn))).mono ?_
  rintro e w2 ⟨rfl, hb⟩
  have n0_ := Aside0.mk (below_then HB.out HB.out.size hb)
  clear HB
  have HB := n0_
  clear n0_ hb
  go_wp2_with (fail)
  refine (get_c g 160 c bs 156 156 _ rfl HL.out.symm (Kd.C_below HR0.out HB.out) HBY.out (by decide) (by decide)).mono ?_
  rintro e w3 ⟨rfl, hb⟩
  have n0_ := Aside0.mk (below_then HB.out HB.out.size hb)
  clear HB
  have HB := n0_
  clear n0_ hb
  have hq : (((rsum (bs.take 156) : Nat) : Int) != ((num bs 156 : Nat) : Int)) = true := by rw [bne_iff_ne]; omega
  have H1 := Aside0.mk h1
  clear h1
  have HZ := Aside0.mk ((HB.out.block w.heap.size HLT.out).trans HZ0.out)
  go_wp2_with (refine wpList_store_row rfl 37 (.tmp 2) (.tmp 24) rfl w.heap.size zero37 rfl rfl 37 zero37 (HZ.out) (by kernel_rfl) rfl zero37_one ?_)
  exact bodyPost_ret (v := .tuple #[.agg zero37, .int .i64 8]) (results25 rfl rfl (setRow_heap _ _ _ _ _ _ HZ.out) rfl) rfl ⟨rfl, below_setRow (below_step HW0.out HB.out) (Nat.le_refl _) _⟩
set_option maxHeartbeats 1000000 in
set_option maxRecDepth 100000 in
theorem parse_long (g c : Nat) (bs : List Int) (w : World) (hl : bs.length = 160) (hr : (Kd.int .u8).C w (some ⟨g, 0, none⟩) 160 bs) (hby : Bytes bs) (hc : 160 ≤ c) (h0 : num bs 0 = 827216706) (h1 : rsum (bs.take 156) = num bs 156) (h2 : 128 < at_ bs 21) :
    Calls Try.prog 25 #[.slice (some ⟨g, 0, none⟩) 160 c] w fun e w' => e = .returned (.tuple #[.agg zero37, .int .i64 7]) ∧ Below w.heap.size w w' := by
  have H0 := Aside0.mk h0
  have H1 := Aside0.mk h1
  clear h0 h1
  have HR := Aside0.mk hr
  have HBY := Aside0.mk hby
  have HL := Aside0.mk hl
  clear hr hby hl
  have HZ0 := Aside0.mk (heap_alloc_new w (.cells zero37 37))
  have HLT := Aside0.mk (show w.heap.size < (w.alloc (.cells zero37 37)).heap.size by simp)
  have HW0 := Aside0.mk (below_alloc (Below.refl w.heap.size w) (.cells zero37 37))
  go_enter Try.func25, Try.ntmps25
  go_wp2_with ((with_reducible refine gate_dst (N := 2) rfl ?_); refine alloc37 2 rfl rfl rfl ?_)
  have HR0 := Aside0.mk (Kd.C_alloc HR.out (.cells zero37 37))
  generalize w.alloc (.cells zero37 37) = W0 at *
  have HB := Aside0.mk (Below.refl W0.heap.size W0)
  refine (get_c g 160 c bs 0 0 _ rfl HL.out.symm (Kd.C_below HR0.out HB.out) HBY.out (by decide) (by decide)).mono ?_
  rintro e w1 ⟨rfl, hb⟩
  have n0_ := Aside0.mk (below_then HB.out HB.out.size hb)
  clear HB
  have HB := n0_
  clear n0_ hb
  rw [H0.out]
  go_wp2_with (fail)
  refine (sum_of (some ⟨g, 0, none⟩) 156 c (bs.take 156) _ (by rw [List.length_take, HL.out]; rfl) (C_take (Kd.C_below HR0.out HB.out) 156 (by decide)) (by omega) (fun n hn => HBY.out n (List.mem_of_mem_take hn))).mono ?_
  rintro e w2 ⟨rfl, hb⟩
  have n0_ := Aside0.mk (below_then HB.out HB.out.size hb)
  clear HB
  have HB := n0_
  clear n0_ hb
  go_wp2_with (fail)
  refine (get_c g 160 c bs 156 156 _ rfl HL.out.symm (Kd.C_below HR0.out HB.out) HBY.out (by decide) (by decide)).mono ?_
  rintro e w3 ⟨rfl, hb⟩
  have n0_ := Aside0.mk (below_then HB.out HB.out.size hb)
  clear HB
  have HB := n0_
  clear n0_ hb
  rw [H1.out]
  have hx21 : w3.cell? ⟨g, 21, none⟩ = some (.int .u8 ((at_ bs 21 : Nat) : Int)) := by
    obtain ⟨ad, e, h⟩ := C_at (Kd.C_below HR0.out HB.out) 21 (by decide) (by rw [HL.out]; decide)
    cases e
    rwa [add_plain, at_val HBY.out 21 (by rw [HL.out]; decide)] at h
  have hb21 := at_lt HBY.out 21
  have HZ := Aside0.mk ((HB.out.block w.heap.size HLT.out).trans HZ0.out)
  go_wp2_with (refine wpList_store_row rfl 37 (.tmp 2) (.tmp 31) rfl w.heap.size zero37 rfl rfl 37 zero37 (HZ.out) (by kernel_rfl) rfl zero37_one ?_)
  exact bodyPost_ret (v := .tuple #[.agg zero37, .int .i64 7]) (results25 rfl rfl (setRow_heap _ _ _ _ _ _ HZ.out) rfl) rfl ⟨rfl, below_setRow (below_step HW0.out HB.out) (Nat.le_refl _) _⟩
end Go.Proofs.Ytjblklejjemdhaa.Krec
