/- The record's Parse, walked: what it answers at the bytes of a right record. -/
import Derived.Test.YtjblklejjemdhaaKrecG
namespace Go.Proofs.Ytjblklejjemdhaa.Krec
set_option linter.unusedVariables false
set_option linter.unusedSimpArgs false
open Go.RowKit Go.Proofs.YtjblklejjemdhaaW.PrintWords Go.Proofs.YtjblklejjemdhaaW.PrintLast Go.Proofs.YtjblklejjemdhaaW.PrintMore Kbase Kcrc
def recs (s f b m p d : Nat) (v : Value) : Array Value := #[.int .u32 (s : Int), .int .u32 (f : Int), .int .u32 (b : Int), .int .u32 (m : Int), .int .u8 (p : Int), .int .u32 (d : Int), v]
theorem recs_one (s f b m p d : Nat) (A : Option Addr) (n c : Nat) : (recs s f b m p d (.slice A n c)).all (·.oneCell') = true := by
  rw [Array.all_eq_true_iff_forall_mem]
  intro v hv
  simp [recs] at hv
  rcases hv with rfl | rfl | rfl | rfl | rfl | rfl | rfl <;> rfl
theorem byte_at {W : World} {g n : Nat} {xs : List Int} (h : (Kd.int .u8).C W (some ⟨g, 0, none⟩) n xs) (hb : Bytes xs) (i : Nat) (hi : i < n) (hx : i < xs.length) : W.cell? ⟨g, i, none⟩ = some (.int .u8 ((at_ xs i : Nat) : Int)) := by
  obtain ⟨ad, e, hc⟩ := C_at h i hi hx
  cases e
  rwa [add_plain, at_val hb i hx] at hc
theorem run_slice28 (W : World) (g c x : Nat) (hx : x ≤ 128) (hc : 160 ≤ c) :
    (Instr.sliceAt 24 (.slice (some ⟨g, 0, none⟩) 160 c) (some (.int .i64 28)) (some (.int .i64 (wrap64 (28 + wrap64 (x : Int))))) none).run Try.prog W = .ok (.slice (some ⟨g, 28, none⟩) x (c - 28)) W := by
  have e : wrap64 (28 + wrap64 (x : Int)) = 28 + (x : Int) := by unfold wrap64; omega
  rw [e]
  have h1 : 0 ≤ 28 + (x : Int) ∧ 28 + (x : Int) ≤ (c : Int) := by omega
  have h2 : (28 : Int) ≤ max (28 + (x : Int)) 0 := by omega
  have h3 : ¬ c = 28 := by omega
  have h4 : (28 + (x : Int)).toNat - 28 = x := by omega
  go_simp
theorem event_slice28 {o : Oper} {a : Act} {W : World} (s hi : Operand) (g c x : Nat) (ho : o.op = .slice 24 s (some (.const (.int .i64 28))) (some hi) none) (hs : a.eval s = .slice (some ⟨g, 0, none⟩) 160 c) (h : a.eval hi = .int .i64 (wrap64 (28 + wrap64 (x : Int)))) (hx : x ≤ 128) (hc : 160 ≤ c) :
    (execOp a.eval o).run Try.prog W = .ok (.value (.slice (some ⟨g, 28, none⟩) x (c - 28))) W := by
  unfold execOp
  rw [ho]
  have h28 : a.eval (.const (.int .i64 28)) = .int .i64 28 := rfl
  simp only [hs, h, h28, Option.map_some, Option.map_none, Sem.run_bind, run_slice28 W g c x hx hc]
  rfl
/-- Behind the reading of the numbers: where the record lies. -/
def RecAt (bs : List Int) (W0 : World) (v4 : Value) (wc : World) : Prop := ∃ P, v4 = .pointer (some ⟨P, 0, none⟩) ∧ wc.heap[P]? = some (.cells (recs (num bs 4) (num bs 8) (num bs 12) (num bs 16) (at_ bs 20) (num bs 24) (.slice none 0 0)) 37 (0, 0)) ∧ W0.heap.size ≤ P ∧ Below W0.heap.size W0 wc
/-- What Parse answers where the sum fits. -/
def ParsedAs (bs : List Int) (w : World) (e : Ending) (w' : World) : Prop := ((∃ v, e = .returned (.tuple #[.agg (recs (num bs 4) (num bs 8) (num bs 12) (num bs 16) (at_ bs 20) (num bs 24) v), .int .i64 0]) ∧ (Kd.int .u8).R 5 w' w.heap.size (fun _ => True) v (init bs) ∧ Good bs) ∨ (e = .returned (.tuple #[.agg zero37, .int .i64 7]) ∧ ¬ Good bs)) ∧ Below w.heap.size w w'
set_option maxHeartbeats 8000000 in
set_option maxRecDepth 100000 in
theorem parse_deep (g c : Nat) (bs : List Int) (w : World) (hl : bs.length = 160) (hr : (Kd.int .u8).C w (some ⟨g, 0, none⟩) 160 bs) (hby : Bytes bs) (hc : 160 ≤ c) (h0 : num bs 0 = 827216706) (h1 : rsum (bs.take 156) = num bs 156) (h2 : at_ bs 21 ≤ 128) :
    Calls Try.prog 25 #[.slice (some ⟨g, 0, none⟩) 160 c] w (ParsedAs bs w) := by
  have H0 := Aside0.mk h0
  have H1 := Aside0.mk h1
  clear h0 h1
  have HR := Aside0.mk hr
  have HBY := Aside0.mk hby
  have HL := Aside0.mk hl
  clear hr hby hl
  have HZ0 := Aside0.mk (heap_alloc_new w (.cells zero37 37))
  have HLT := Aside0.mk (show w.heap.size < (w.alloc (.cells zero37 37)).heap.size by simp)
  have HW0 := Aside0.mk (below_alloc (Below.refl w.heap.size w) (.cells zero37 37))
  go_enter Try.func25, Try.ntmps25
  go_wp2_with ((with_reducible refine gate_dst (N := 2) rfl ?_); refine alloc37 2 rfl rfl rfl ?_)
  have HR0 := Aside0.mk (Kd.C_alloc HR.out (.cells zero37 37))
  generalize w.alloc (.cells zero37 37) = W0 at *
  have HB := Aside0.mk (Below.refl W0.heap.size W0)
  refine (get_c g 160 c bs 0 0 _ rfl HL.out.symm (Kd.C_below HR0.out HB.out) HBY.out (by decide) (by decide)).mono ?_
  rintro e w1 ⟨rfl, hb⟩
  have n0_ := Aside0.mk (below_then HB.out HB.out.size hb)
  clear HB
  have HB := n0_
  clear n0_ hb
  rw [H0.out]
  go_wp2_with (fail)
  refine (sum_of (some ⟨g, 0, none⟩) 156 c (bs.take 156) _ (by rw [List.length_take, HL.out]; rfl) (C_take (Kd.C_below HR0.out HB.out) 156 (by decide)) (by omega) (fun n hn => HBY.out n (List.mem_of_mem_take hn))).mono ?_
  rintro e w2 ⟨rfl, hb⟩
  have n0_ := Aside0.mk (below_then HB.out HB.out.size hb)
  clear HB
  have HB := n0_
  clear n0_ hb
  go_wp2_with (fail)
  refine (get_c g 160 c bs 156 156 _ rfl HL.out.symm (Kd.C_below HR0.out HB.out) HBY.out (by decide) (by decide)).mono ?_
  rintro e w3 ⟨rfl, hb⟩
  have n0_ := Aside0.mk (below_then HB.out HB.out.size hb)
  clear HB
  have HB := n0_
  clear n0_ hb
  rw [H1.out]
  have hx21 : w3.cell? ⟨g, 21, none⟩ = some (.int .u8 ((at_ bs 21 : Nat) : Int)) := by
    obtain ⟨ad, e, h⟩ := C_at (Kd.C_below HR0.out HB.out) 21 (by decide) (by rw [HL.out]; decide)
    cases e
    rwa [add_plain, at_val HBY.out 21 (by rw [HL.out]; decide)] at h
  have hb21 := at_lt HBY.out 21
  have hq21 : decide (((at_ bs 21 : Nat) : Int) > 128) = false := decide_eq_false (by omega)
  go_upto_region 7 with (fail)
  go_cut [4] (fun v4 wc => RecAt bs W0 v4 wc)
  case first =>
    refine start_ (n := 16) (S := (fun w' => Below W0.heap.size W0 w')) (ds := [15]) #[false, false, false, false, false, false, false, false, false, false, false, false, false, false, false, false] (by kernel_rfl) rfl rfl (below_drew1 HB.out) (fun hHeld => ?_)
    refine pure_ (i := 0) (N := some 32) (v := ?_) (a' := ?_) #[true, false, false, false, false, false, false, false, false, false, false, false, false, false, false, false] rfl rfl (by kernel_rfl) (fun _ _ _ h => h) (Or.inl ⟨by rfl, ?_⟩) ?_ ?_
    rotate_left
    · intro w'
      go_simp
      with_reducible rfl
    rotate_left
    · simp only [Act.put, List.setIfInBounds_toArray, List.set_cons_zero, List.set_cons_succ, i64_w, i32_w]
      rfl
    refine pure_ (i := 2) (N := some 34) (v := ?_) (a' := ?_) #[true, false, true, false, false, false, false, false, false, false, false, false, false, false, false, false] rfl rfl (by kernel_rfl) (fun _ _ _ h => h) (Or.inl ⟨by rfl, ?_⟩) ?_ ?_
    rotate_left
    · intro w'
      go_simp
      with_reducible rfl
    rotate_left
    · simp only [Act.put, List.setIfInBounds_toArray, List.set_cons_zero, List.set_cons_succ, i64_w, i32_w]
      rfl
    refine pure_ (i := 4) (N := some 36) (v := ?_) (a' := ?_) #[true, false, true, false, true, false, false, false, false, false, false, false, false, false, false, false] rfl rfl (by kernel_rfl) (fun _ _ _ h => h) (Or.inl ⟨by rfl, ?_⟩) ?_ ?_
    rotate_left
    · intro w'
      go_simp
      with_reducible rfl
    rotate_left
    · simp only [Act.put, List.setIfInBounds_toArray, List.set_cons_zero, List.set_cons_succ, i64_w, i32_w]
      rfl
    refine pure_ (i := 6) (N := some 38) (v := ?_) (a' := ?_) #[true, false, true, false, true, false, true, false, false, false, false, false, false, false, false, false] rfl rfl (by kernel_rfl) (fun _ _ _ h => h) (Or.inl ⟨by rfl, ?_⟩) ?_ ?_
    rotate_left
    · intro w'
      go_simp
      with_reducible rfl
    rotate_left
    · simp only [Act.put, List.setIfInBounds_toArray, List.set_cons_zero, List.set_cons_succ, i64_w, i32_w]
      rfl
    refine pure_ (i := 8) (N := some 40) (v := ?_) (a' := ?_) #[true, false, true, false, true, false, true, false, true, false, false, false, false, false, false, false] rfl rfl (by kernel_rfl) (fun _ _ _ h => h) (Or.inl ⟨by rfl, ?_⟩) ?_ ?_
    rotate_left
    · intro w'
      go_simp
      with_reducible rfl
    rotate_left
    · simp only [Act.put, List.setIfInBounds_toArray, List.set_cons_zero, List.set_cons_succ, i64_w, i32_w]
      rfl
    refine pure_ (i := 11) (N := some 43) (v := ?_) (a' := ?_) #[true, false, true, false, true, false, true, false, true, false, false, true, false, false, false, false] rfl rfl (by kernel_rfl) (fun _ _ _ h => h) (Or.inl ⟨by rfl, ?_⟩) ?_ ?_
    rotate_left
    · intro w'
      go_simp
      with_reducible rfl
    rotate_left
    · simp only [Act.put, List.setIfInBounds_toArray, List.set_cons_zero, List.set_cons_succ, i64_w, i32_w]
      rfl
    refine pure_ (i := 9) (N := some 41) (v := ?_) (a' := ?_) #[true, false, true, false, true, false, true, false, true, true, false, true, false, false, false, false] rfl rfl (by kernel_rfl) (fun _ _ _ h => h) (Or.inl ⟨by rfl, ?_⟩) ?_ ?_
    rotate_left
    · intro w'
      go_simp
      with_reducible rfl
    rotate_left
    · simp only [Act.put, List.setIfInBounds_toArray, List.set_cons_zero, List.set_cons_succ, i64_w, i32_w]
      rfl
    refine take_ (i := 10) (N := some 42) (v := ?_) (a' := ?_) #[true, false, true, false, true, false, true, false, true, true, true, true, false, false, false, false] rfl rfl (by kernel_rfl) (fun _ _ _ h => h) (Or.inl ⟨by rfl, ?_⟩) hHeld ?_ ?_
    rotate_left
    · intro w' hw'
      have hx20 : w'.cell? ⟨g, 20, none⟩ = some (.int .u8 ((at_ bs 20 : Nat) : Int)) := byte_at (Kd.C_below HR0.out hw') HBY.out 20 (by decide) (by rw [HL.out]; decide)
      go_simp
      with_reducible rfl
    rotate_left
    · simp only [Act.put, List.setIfInBounds_toArray, List.set_cons_zero, List.set_cons_succ, i64_w, i32_w]
      rfl
    refine two_ (i := 1) (j := 14) (Ni := some 33) (Nj := some 4) #[true, true, true, false, true, false, true, false, true, true, true, true, false, false, false, false] #[true, false, true, false, true, false, true, false, true, true, true, true, false, false, true, false] rfl rfl rfl rfl (by kernel_rfl) (by decide) (by decide) (fun K hK => ?_) (fun K hK => ?_)
    · refine goes_ Try.func32 (by kernel_rfl) rfl #[.slice (some ⟨g, 0, none⟩) 160 c, .int .i64 4] (by rfl) rfl rfl (by (try simp only [List.map_toArray, List.map_cons, List.map_nil]); first | done | rfl) ?_
      refine (get_c g 160 c bs 4 4 _ rfl HL.out.symm (Kd.C_below HR0.out hHeld) HBY.out (by decide) (by decide)).mono ?_
      rintro e x1 ⟨rfl, hb⟩
      refine ⟨_, rfl, ?_⟩
      refine hK.out _ _ (below_then hHeld hHeld.size hb) (fun hHeld => ?_)
      clear hK K
      refine norm_ (a' := ?_) ?_ ?_
      rotate_left
      · show Act.put _ (some 33) _ = _
        simp only [Act.put, List.setIfInBounds_toArray, List.set_cons_zero, List.set_cons_succ, i64_w, i32_w]
        rfl
      refine two_ (i := 3) (j := 14) (Ni := some 35) (Nj := some 4) #[true, true, true, true, true, false, true, false, true, true, true, true, false, false, false, false] #[true, true, true, false, true, false, true, false, true, true, true, true, false, false, true, false] rfl rfl rfl rfl (by kernel_rfl) (by decide) (by decide) (fun K hK => ?_) (fun K hK => ?_)
      · refine goes_ Try.func32 (by kernel_rfl) rfl #[.slice (some ⟨g, 0, none⟩) 160 c, .int .i64 8] (by rfl) rfl rfl (by (try simp only [List.map_toArray, List.map_cons, List.map_nil]); first | done | rfl) ?_
        refine (get_c g 160 c bs 8 8 _ rfl HL.out.symm (Kd.C_below HR0.out hHeld) HBY.out (by decide) (by decide)).mono ?_
        rintro e x2 ⟨rfl, hb⟩
        refine ⟨_, rfl, ?_⟩
        refine hK.out _ _ (below_then hHeld hHeld.size hb) (fun hHeld => ?_)
        clear hK K
        refine norm_ (a' := ?_) ?_ ?_
        rotate_left
        · show Act.put _ (some 35) _ = _
          simp only [Act.put, List.setIfInBounds_toArray, List.set_cons_zero, List.set_cons_succ, i64_w, i32_w]
          rfl
        refine two_ (i := 5) (j := 14) (Ni := some 37) (Nj := some 4) #[true, true, true, true, true, true, true, false, true, true, true, true, false, false, false, false] #[true, true, true, true, true, false, true, false, true, true, true, true, false, false, true, false] rfl rfl rfl rfl (by kernel_rfl) (by decide) (by decide) (fun K hK => ?_) (fun K hK => ?_)
        · refine goes_ Try.func32 (by kernel_rfl) rfl #[.slice (some ⟨g, 0, none⟩) 160 c, .int .i64 12] (by rfl) rfl rfl (by (try simp only [List.map_toArray, List.map_cons, List.map_nil]); first | done | rfl) ?_
          refine (get_c g 160 c bs 12 12 _ rfl HL.out.symm (Kd.C_below HR0.out hHeld) HBY.out (by decide) (by decide)).mono ?_
          rintro e x3 ⟨rfl, hb⟩
          refine ⟨_, rfl, ?_⟩
          refine hK.out _ _ (below_then hHeld hHeld.size hb) (fun hHeld => ?_)
          clear hK K
          refine norm_ (a' := ?_) ?_ ?_
          rotate_left
          · show Act.put _ (some 37) _ = _
            simp only [Act.put, List.setIfInBounds_toArray, List.set_cons_zero, List.set_cons_succ, i64_w, i32_w]
            rfl
          refine two_ (i := 7) (j := 14) (Ni := some 39) (Nj := some 4) #[true, true, true, true, true, true, true, true, true, true, true, true, false, false, false, false] #[true, true, true, true, true, true, true, false, true, true, true, true, false, false, true, false] rfl rfl rfl rfl (by kernel_rfl) (by decide) (by decide) (fun K hK => ?_) (fun K hK => ?_)
          · refine goes_ Try.func32 (by kernel_rfl) rfl #[.slice (some ⟨g, 0, none⟩) 160 c, .int .i64 16] (by rfl) rfl rfl (by (try simp only [List.map_toArray, List.map_cons, List.map_nil]); first | done | rfl) ?_
            refine (get_c g 160 c bs 16 16 _ rfl HL.out.symm (Kd.C_below HR0.out hHeld) HBY.out (by decide) (by decide)).mono ?_
            rintro e x4 ⟨rfl, hb⟩
            refine ⟨_, rfl, ?_⟩
            refine hK.out _ _ (below_then hHeld hHeld.size hb) (fun hHeld => ?_)
            clear hK K
            refine norm_ (a' := ?_) ?_ ?_
            rotate_left
            · show Act.put _ (some 39) _ = _
              simp only [Act.put, List.setIfInBounds_toArray, List.set_cons_zero, List.set_cons_succ, i64_w, i32_w]
              rfl
            refine two_ (i := 12) (j := 14) (Ni := some 44) (Nj := some 4) #[true, true, true, true, true, true, true, true, true, true, true, true, true, false, false, false] #[true, true, true, true, true, true, true, true, true, true, true, true, false, false, true, false] rfl rfl rfl rfl (by kernel_rfl) (by decide) (by decide) (fun K hK => ?_) (fun K hK => ?_)
            · refine goes_ Try.func32 (by kernel_rfl) rfl #[.slice (some ⟨g, 0, none⟩) 160 c, .int .i64 24] (by rfl) rfl rfl (by (try simp only [List.map_toArray, List.map_cons, List.map_nil]); first | done | rfl) ?_
              refine (get_c g 160 c bs 24 24 _ rfl HL.out.symm (Kd.C_below HR0.out hHeld) HBY.out (by decide) (by decide)).mono ?_
              rintro e x5 ⟨rfl, hb⟩
              refine ⟨_, rfl, ?_⟩
              refine hK.out _ _ (below_then hHeld hHeld.size hb) (fun hHeld => ?_)
              clear hK K
              refine norm_ (a' := ?_) ?_ ?_
              rotate_left
              · show Act.put _ (some 44) _ = _
                simp only [Act.put, List.setIfInBounds_toArray, List.set_cons_zero, List.set_cons_succ, i64_w, i32_w]
                rfl
              refine pure_ (i := 13) (N := some 45) (v := ?_) (a' := ?_) #[true, true, true, true, true, true, true, true, true, true, true, true, true, true, false, false] rfl rfl (by kernel_rfl) (fun _ _ _ h => h) (Or.inl ⟨by rfl, ?_⟩) ?_ ?_
              rotate_left
              · intro w'
                go_simp
                with_reducible rfl
              rotate_left
              · simp only [Act.put, List.setIfInBounds_toArray, List.set_cons_zero, List.set_cons_succ, i64_w, i32_w]
                rfl
              refine one_ (i := 14) (N := some 4) #[true, true, true, true, true, true, true, true, true, true, true, true, true, true, true, false] rfl rfl (by kernel_rfl) (by decide) (fun K hK => ?_)
              refine value_ (by rfl) rfl (event_alloc37 rfl) ?_
              have HP := Aside0.mk (heap_alloc_new x5 (.cells zero37 37))
              have HPL := Aside0.mk hHeld.size
              refine hK.out _ _ (below_alloc hHeld _) (fun hHeld => ?_)
              clear hK K
              refine norm_ (a' := ?_) ?_ ?_
              rotate_left
              · show Act.put _ (some 4) _ = _
                simp only [Act.put, List.setIfInBounds_toArray, List.set_cons_zero, List.set_cons_succ, i64_w, i32_w]
                rfl
              refine last_ (i := 15) (N := none) #[true, true, true, true, true, true, true, true, true, true, true, true, true, true, true, true] rfl rfl (by kernel_rfl) (by decide) (fun K hK => ?_)
              rw [if_pos (by rfl)]
              refine wp_store_row 37 (.tmp 4) (.tmp 45) rfl _ (recs (num bs 4) (num bs 8) (num bs 12) (num bs 16) (at_ bs 20) (num bs 24) (.slice none 0 0)) rfl rfl 37 zero37 HP.out (by kernel_rfl) rfl (recs_one _ _ _ _ _ _ _ _ _) ?_
              refine hK.out _ _ ?_
              clear hK K
              refine norm_ (a' := ?_) ?_ ?_
              rotate_left
              · show Act.put _ none _ = _
                simp only [Act.put]
                rfl
              refine done_ (by kernel_rfl) ?_
              go_wp2
              go_meet
              case rel => exact ⟨_, rfl, setRow_heap _ _ _ _ _ _ HP.out, HPL.out, below_setRow hHeld HPL.out _⟩
            · refine value_ (by rfl) rfl (event_alloc37 rfl) ?_
              have HP := Aside0.mk (heap_alloc_new x4 (.cells zero37 37))
              have HPL := Aside0.mk hHeld.size
              refine hK.out _ _ (below_alloc hHeld _) (fun hHeld => ?_)
              clear hK K
              refine norm_ (a' := ?_) ?_ ?_
              rotate_left
              · show Act.put _ (some 4) _ = _
                simp only [Act.put, List.setIfInBounds_toArray, List.set_cons_zero, List.set_cons_succ, i64_w, i32_w]
                rfl
              refine one_ (i := 12) (N := some 44) #[true, true, true, true, true, true, true, true, true, true, true, true, true, false, true, false] rfl rfl (by kernel_rfl) (by decide) (fun K hK => ?_)
              refine goes_ Try.func32 (by kernel_rfl) rfl #[.slice (some ⟨g, 0, none⟩) 160 c, .int .i64 24] (by rfl) rfl rfl (by (try simp only [List.map_toArray, List.map_cons, List.map_nil]); first | done | rfl) ?_
              refine (get_c g 160 c bs 24 24 _ rfl HL.out.symm (Kd.C_below HR0.out hHeld) HBY.out (by decide) (by decide)).mono ?_
              rintro e x6 ⟨rfl, hb⟩
              refine ⟨_, rfl, ?_⟩
              have HP2 := Aside0.mk ((hb.block _ (blk_lt HP.out)).trans HP.out)
              clear HP
              have HP := HP2
              clear HP2
              refine hK.out _ _ (below_then hHeld hHeld.size hb) (fun hHeld => ?_)
              clear hK K
              refine norm_ (a' := ?_) ?_ ?_
              rotate_left
              · show Act.put _ (some 44) _ = _
                simp only [Act.put, List.setIfInBounds_toArray, List.set_cons_zero, List.set_cons_succ, i64_w, i32_w]
                rfl
              refine pure_ (i := 13) (N := some 45) (v := ?_) (a' := ?_) #[true, true, true, true, true, true, true, true, true, true, true, true, true, true, true, false] rfl rfl (by kernel_rfl) (fun _ _ _ h => h) (Or.inl ⟨by rfl, ?_⟩) ?_ ?_
              rotate_left
              · intro w'
                go_simp
                with_reducible rfl
              rotate_left
              · simp only [Act.put, List.setIfInBounds_toArray, List.set_cons_zero, List.set_cons_succ, i64_w, i32_w]
                rfl
              refine last_ (i := 15) (N := none) #[true, true, true, true, true, true, true, true, true, true, true, true, true, true, true, true] rfl rfl (by kernel_rfl) (by decide) (fun K hK => ?_)
              rw [if_pos (by rfl)]
              refine wp_store_row 37 (.tmp 4) (.tmp 45) rfl _ (recs (num bs 4) (num bs 8) (num bs 12) (num bs 16) (at_ bs 20) (num bs 24) (.slice none 0 0)) rfl rfl 37 zero37 HP.out (by kernel_rfl) rfl (recs_one _ _ _ _ _ _ _ _ _) ?_
              refine hK.out _ _ ?_
              clear hK K
              refine norm_ (a' := ?_) ?_ ?_
              rotate_left
              · show Act.put _ none _ = _
                simp only [Act.put]
                rfl
              refine done_ (by kernel_rfl) ?_
              go_wp2
              go_meet
              case rel => exact ⟨_, rfl, setRow_heap _ _ _ _ _ _ HP.out, HPL.out, below_setRow hHeld HPL.out _⟩
          · refine value_ (by rfl) rfl (event_alloc37 rfl) ?_
            have HP := Aside0.mk (heap_alloc_new x3 (.cells zero37 37))
            have HPL := Aside0.mk hHeld.size
            refine hK.out _ _ (below_alloc hHeld _) (fun hHeld => ?_)
            clear hK K
            refine norm_ (a' := ?_) ?_ ?_
            rotate_left
            · show Act.put _ (some 4) _ = _
              simp only [Act.put, List.setIfInBounds_toArray, List.set_cons_zero, List.set_cons_succ, i64_w, i32_w]
              rfl
            refine one_ (i := 7) (N := some 39) #[true, true, true, true, true, true, true, true, true, true, true, true, false, false, true, false] rfl rfl (by kernel_rfl) (by decide) (fun K hK => ?_)
            refine goes_ Try.func32 (by kernel_rfl) rfl #[.slice (some ⟨g, 0, none⟩) 160 c, .int .i64 16] (by rfl) rfl rfl (by (try simp only [List.map_toArray, List.map_cons, List.map_nil]); first | done | rfl) ?_
            refine (get_c g 160 c bs 16 16 _ rfl HL.out.symm (Kd.C_below HR0.out hHeld) HBY.out (by decide) (by decide)).mono ?_
            rintro e x7 ⟨rfl, hb⟩
            refine ⟨_, rfl, ?_⟩
            have HP2 := Aside0.mk ((hb.block _ (blk_lt HP.out)).trans HP.out)
            clear HP
            have HP := HP2
            clear HP2
            refine hK.out _ _ (below_then hHeld hHeld.size hb) (fun hHeld => ?_)
            clear hK K
            refine norm_ (a' := ?_) ?_ ?_
            rotate_left
            · show Act.put _ (some 39) _ = _
              simp only [Act.put, List.setIfInBounds_toArray, List.set_cons_zero, List.set_cons_succ, i64_w, i32_w]
              rfl
            refine one_ (i := 12) (N := some 44) #[true, true, true, true, true, true, true, true, true, true, true, true, true, false, true, false] rfl rfl (by kernel_rfl) (by decide) (fun K hK => ?_)
            refine goes_ Try.func32 (by kernel_rfl) rfl #[.slice (some ⟨g, 0, none⟩) 160 c, .int .i64 24] (by rfl) rfl rfl (by (try simp only [List.map_toArray, List.map_cons, List.map_nil]); first | done | rfl) ?_
            refine (get_c g 160 c bs 24 24 _ rfl HL.out.symm (Kd.C_below HR0.out hHeld) HBY.out (by decide) (by decide)).mono ?_
            rintro e x8 ⟨rfl, hb⟩
            refine ⟨_, rfl, ?_⟩
            have HP2 := Aside0.mk ((hb.block _ (blk_lt HP.out)).trans HP.out)
            clear HP
            have HP := HP2
            clear HP2
            refine hK.out _ _ (below_then hHeld hHeld.size hb) (fun hHeld => ?_)
            clear hK K
            refine norm_ (a' := ?_) ?_ ?_
            rotate_left
            · show Act.put _ (some 44) _ = _
              simp only [Act.put, List.setIfInBounds_toArray, List.set_cons_zero, List.set_cons_succ, i64_w, i32_w]
              rfl
            refine pure_ (i := 13) (N := some 45) (v := ?_) (a' := ?_) #[true, true, true, true, true, true, true, true, true, true, true, true, true, true, true, false] rfl rfl (by kernel_rfl) (fun _ _ _ h => h) (Or.inl ⟨by rfl, ?_⟩) ?_ ?_
            rotate_left
            · intro w'
              go_simp
              with_reducible rfl
            rotate_left
            · simp only [Act.put, List.setIfInBounds_toArray, List.set_cons_zero, List.set_cons_succ, i64_w, i32_w]
              rfl
            refine last_ (i := 15) (N := none) #[true, true, true, true, true, true, true, true, true, true, true, true, true, true, true, true] rfl rfl (by kernel_rfl) (by decide) (fun K hK => ?_)
            rw [if_pos (by rfl)]
            refine wp_store_row 37 (.tmp 4) (.tmp 45) rfl _ (recs (num bs 4) (num bs 8) (num bs 12) (num bs 16) (at_ bs 20) (num bs 24) (.slice none 0 0)) rfl rfl 37 zero37 HP.out (by kernel_rfl) rfl (recs_one _ _ _ _ _ _ _ _ _) ?_
            refine hK.out _ _ ?_
            clear hK K
            refine norm_ (a' := ?_) ?_ ?_
            rotate_left
            · show Act.put _ none _ = _
              simp only [Act.put]
              rfl
            refine done_ (by kernel_rfl) ?_
            go_wp2
            go_meet
            case rel => exact ⟨_, rfl, setRow_heap _ _ _ _ _ _ HP.out, HPL.out, below_setRow hHeld HPL.out _⟩
        · refine value_ (by rfl) rfl (event_alloc37 rfl) ?_
          have HP := Aside0.mk (heap_alloc_new x2 (.cells zero37 37))
          have HPL := Aside0.mk hHeld.size
          refine hK.out _ _ (below_alloc hHeld _) (fun hHeld => ?_)
          clear hK K
          refine norm_ (a' := ?_) ?_ ?_
          rotate_left
          · show Act.put _ (some 4) _ = _
            simp only [Act.put, List.setIfInBounds_toArray, List.set_cons_zero, List.set_cons_succ, i64_w, i32_w]
            rfl
          refine one_ (i := 5) (N := some 37) #[true, true, true, true, true, true, true, false, true, true, true, true, false, false, true, false] rfl rfl (by kernel_rfl) (by decide) (fun K hK => ?_)
          refine goes_ Try.func32 (by kernel_rfl) rfl #[.slice (some ⟨g, 0, none⟩) 160 c, .int .i64 12] (by rfl) rfl rfl (by (try simp only [List.map_toArray, List.map_cons, List.map_nil]); first | done | rfl) ?_
          refine (get_c g 160 c bs 12 12 _ rfl HL.out.symm (Kd.C_below HR0.out hHeld) HBY.out (by decide) (by decide)).mono ?_
          rintro e x9 ⟨rfl, hb⟩
          refine ⟨_, rfl, ?_⟩
          have HP2 := Aside0.mk ((hb.block _ (blk_lt HP.out)).trans HP.out)
          clear HP
          have HP := HP2
          clear HP2
          refine hK.out _ _ (below_then hHeld hHeld.size hb) (fun hHeld => ?_)
          clear hK K
          refine norm_ (a' := ?_) ?_ ?_
          rotate_left
          · show Act.put _ (some 37) _ = _
            simp only [Act.put, List.setIfInBounds_toArray, List.set_cons_zero, List.set_cons_succ, i64_w, i32_w]
            rfl
          refine one_ (i := 7) (N := some 39) #[true, true, true, true, true, true, true, true, true, true, true, true, false, false, true, false] rfl rfl (by kernel_rfl) (by decide) (fun K hK => ?_)
          refine goes_ Try.func32 (by kernel_rfl) rfl #[.slice (some ⟨g, 0, none⟩) 160 c, .int .i64 16] (by rfl) rfl rfl (by (try simp only [List.map_toArray, List.map_cons, List.map_nil]); first | done | rfl) ?_
          refine (get_c g 160 c bs 16 16 _ rfl HL.out.symm (Kd.C_below HR0.out hHeld) HBY.out (by decide) (by decide)).mono ?_
          rintro e x10 ⟨rfl, hb⟩
          refine ⟨_, rfl, ?_⟩
          have HP2 := Aside0.mk ((hb.block _ (blk_lt HP.out)).trans HP.out)
          clear HP
          have HP := HP2
          clear HP2
          refine hK.out _ _ (below_then hHeld hHeld.size hb) (fun hHeld => ?_)
          clear hK K
          refine norm_ (a' := ?_) ?_ ?_
          rotate_left
          · show Act.put _ (some 39) _ = _
            simp only [Act.put, List.setIfInBounds_toArray, List.set_cons_zero, List.set_cons_succ, i64_w, i32_w]
            rfl
          refine one_ (i := 12) (N := some 44) #[true, true, true, true, true, true, true, true, true, true, true, true, true, false, true, false] rfl rfl (by kernel_rfl) (by decide) (fun K hK => ?_)
          refine goes_ Try.func32 (by kernel_rfl) rfl #[.slice (some ⟨g, 0, none⟩) 160 c, .int .i64 24] (by rfl) rfl rfl (by (try simp only [List.map_toArray, List.map_cons, List.map_nil]); first | done | rfl) ?_
          refine (get_c g 160 c bs 24 24 _ rfl HL.out.symm (Kd.C_below HR0.out hHeld) HBY.out (by decide) (by decide)).mono ?_
          rintro e x11 ⟨rfl, hb⟩
          refine ⟨_, rfl, ?_⟩
          have HP2 := Aside0.mk ((hb.block _ (blk_lt HP.out)).trans HP.out)
          clear HP
          have HP := HP2
          clear HP2
          refine hK.out _ _ (below_then hHeld hHeld.size hb) (fun hHeld => ?_)
          clear hK K
          refine norm_ (a' := ?_) ?_ ?_
          rotate_left
          · show Act.put _ (some 44) _ = _
            simp only [Act.put, List.setIfInBounds_toArray, List.set_cons_zero, List.set_cons_succ, i64_w, i32_w]
            rfl
          refine pure_ (i := 13) (N := some 45) (v := ?_) (a' := ?_) #[true, true, true, true, true, true, true, true, true, true, true, true, true, true, true, false] rfl rfl (by kernel_rfl) (fun _ _ _ h => h) (Or.inl ⟨by rfl, ?_⟩) ?_ ?_
          rotate_left
          · intro w'
            go_simp
            with_reducible rfl
          rotate_left
          · simp only [Act.put, List.setIfInBounds_toArray, List.set_cons_zero, List.set_cons_succ, i64_w, i32_w]
            rfl
          refine last_ (i := 15) (N := none) #[true, true, true, true, true, true, true, true, true, true, true, true, true, true, true, true] rfl rfl (by kernel_rfl) (by decide) (fun K hK => ?_)
          rw [if_pos (by rfl)]
          refine wp_store_row 37 (.tmp 4) (.tmp 45) rfl _ (recs (num bs 4) (num bs 8) (num bs 12) (num bs 16) (at_ bs 20) (num bs 24) (.slice none 0 0)) rfl rfl 37 zero37 HP.out (by kernel_rfl) rfl (recs_one _ _ _ _ _ _ _ _ _) ?_
          refine hK.out _ _ ?_
          clear hK K
          refine norm_ (a' := ?_) ?_ ?_
          rotate_left
          · show Act.put _ none _ = _
            simp only [Act.put]
            rfl
          refine done_ (by kernel_rfl) ?_
          go_wp2
          go_meet
          case rel => exact ⟨_, rfl, setRow_heap _ _ _ _ _ _ HP.out, HPL.out, below_setRow hHeld HPL.out _⟩
      · refine value_ (by rfl) rfl (event_alloc37 rfl) ?_
        have HP := Aside0.mk (heap_alloc_new x1 (.cells zero37 37))
        have HPL := Aside0.mk hHeld.size
        refine hK.out _ _ (below_alloc hHeld _) (fun hHeld => ?_)
        clear hK K
        refine norm_ (a' := ?_) ?_ ?_
        rotate_left
        · show Act.put _ (some 4) _ = _
          simp only [Act.put, List.setIfInBounds_toArray, List.set_cons_zero, List.set_cons_succ, i64_w, i32_w]
          rfl
        refine one_ (i := 3) (N := some 35) #[true, true, true, true, true, false, true, false, true, true, true, true, false, false, true, false] rfl rfl (by kernel_rfl) (by decide) (fun K hK => ?_)
        refine goes_ Try.func32 (by kernel_rfl) rfl #[.slice (some ⟨g, 0, none⟩) 160 c, .int .i64 8] (by rfl) rfl rfl (by (try simp only [List.map_toArray, List.map_cons, List.map_nil]); first | done | rfl) ?_
        refine (get_c g 160 c bs 8 8 _ rfl HL.out.symm (Kd.C_below HR0.out hHeld) HBY.out (by decide) (by decide)).mono ?_
        rintro e x12 ⟨rfl, hb⟩
        refine ⟨_, rfl, ?_⟩
        have HP2 := Aside0.mk ((hb.block _ (blk_lt HP.out)).trans HP.out)
        clear HP
        have HP := HP2
        clear HP2
        refine hK.out _ _ (below_then hHeld hHeld.size hb) (fun hHeld => ?_)
        clear hK K
        refine norm_ (a' := ?_) ?_ ?_
        rotate_left
        · show Act.put _ (some 35) _ = _
          simp only [Act.put, List.setIfInBounds_toArray, List.set_cons_zero, List.set_cons_succ, i64_w, i32_w]
          rfl
        refine one_ (i := 5) (N := some 37) #[true, true, true, true, true, true, true, false, true, true, true, true, false, false, true, false] rfl rfl (by kernel_rfl) (by decide) (fun K hK => ?_)
        refine goes_ Try.func32 (by kernel_rfl) rfl #[.slice (some ⟨g, 0, none⟩) 160 c, .int .i64 12] (by rfl) rfl rfl (by (try simp only [List.map_toArray, List.map_cons, List.map_nil]); first | done | rfl) ?_
        refine (get_c g 160 c bs 12 12 _ rfl HL.out.symm (Kd.C_below HR0.out hHeld) HBY.out (by decide) (by decide)).mono ?_
        rintro e x13 ⟨rfl, hb⟩
        refine ⟨_, rfl, ?_⟩
        have HP2 := Aside0.mk ((hb.block _ (blk_lt HP.out)).trans HP.out)
        clear HP
        have HP := HP2
        clear HP2
        refine hK.out _ _ (below_then hHeld hHeld.size hb) (fun hHeld => ?_)
        clear hK K
        refine norm_ (a' := ?_) ?_ ?_
        rotate_left
        · show Act.put _ (some 37) _ = _
          simp only [Act.put, List.setIfInBounds_toArray, List.set_cons_zero, List.set_cons_succ, i64_w, i32_w]
          rfl
        refine one_ (i := 7) (N := some 39) #[true, true, true, true, true, true, true, true, true, true, true, true, false, false, true, false] rfl rfl (by kernel_rfl) (by decide) (fun K hK => ?_)
        refine goes_ Try.func32 (by kernel_rfl) rfl #[.slice (some ⟨g, 0, none⟩) 160 c, .int .i64 16] (by rfl) rfl rfl (by (try simp only [List.map_toArray, List.map_cons, List.map_nil]); first | done | rfl) ?_
        refine (get_c g 160 c bs 16 16 _ rfl HL.out.symm (Kd.C_below HR0.out hHeld) HBY.out (by decide) (by decide)).mono ?_
        rintro e x14 ⟨rfl, hb⟩
        refine ⟨_, rfl, ?_⟩
        have HP2 := Aside0.mk ((hb.block _ (blk_lt HP.out)).trans HP.out)
        clear HP
        have HP := HP2
        clear HP2
        refine hK.out _ _ (below_then hHeld hHeld.size hb) (fun hHeld => ?_)
        clear hK K
        refine norm_ (a' := ?_) ?_ ?_
        rotate_left
        · show Act.put _ (some 39) _ = _
          simp only [Act.put, List.setIfInBounds_toArray, List.set_cons_zero, List.set_cons_succ, i64_w, i32_w]
          rfl
        refine one_ (i := 12) (N := some 44) #[true, true, true, true, true, true, true, true, true, true, true, true, true, false, true, false] rfl rfl (by kernel_rfl) (by decide) (fun K hK => ?_)
        refine goes_ Try.func32 (by kernel_rfl) rfl #[.slice (some ⟨g, 0, none⟩) 160 c, .int .i64 24] (by rfl) rfl rfl (by (try simp only [List.map_toArray, List.map_cons, List.map_nil]); first | done | rfl) ?_
        refine (get_c g 160 c bs 24 24 _ rfl HL.out.symm (Kd.C_below HR0.out hHeld) HBY.out (by decide) (by decide)).mono ?_
        rintro e x15 ⟨rfl, hb⟩
        refine ⟨_, rfl, ?_⟩
        have HP2 := Aside0.mk ((hb.block _ (blk_lt HP.out)).trans HP.out)
        clear HP
        have HP := HP2
        clear HP2
        refine hK.out _ _ (below_then hHeld hHeld.size hb) (fun hHeld => ?_)
        clear hK K
        refine norm_ (a' := ?_) ?_ ?_
        rotate_left
        · show Act.put _ (some 44) _ = _
          simp only [Act.put, List.setIfInBounds_toArray, List.set_cons_zero, List.set_cons_succ, i64_w, i32_w]
          rfl
        refine pure_ (i := 13) (N := some 45) (v := ?_) (a' := ?_) #[true, true, true, true, true, true, true, true, true, true, true, true, true, true, true, false] rfl rfl (by kernel_rfl) (fun _ _ _ h => h) (Or.inl ⟨by rfl, ?_⟩) ?_ ?_
        rotate_left
        · intro w'
          go_simp
          with_reducible rfl
        rotate_left
        · simp only [Act.put, List.setIfInBounds_toArray, List.set_cons_zero, List.set_cons_succ, i64_w, i32_w]
          rfl
        refine last_ (i := 15) (N := none) #[true, true, true, true, true, true, true, true, true, true, true, true, true, true, true, true] rfl rfl (by kernel_rfl) (by decide) (fun K hK => ?_)
        rw [if_pos (by rfl)]
        refine wp_store_row 37 (.tmp 4) (.tmp 45) rfl _ (recs (num bs 4) (num bs 8) (num bs 12) (num bs 16) (at_ bs 20) (num bs 24) (.slice none 0 0)) rfl rfl 37 zero37 HP.out (by kernel_rfl) rfl (recs_one _ _ _ _ _ _ _ _ _) ?_
        refine hK.out _ _ ?_
        clear hK K
        refine norm_ (a' := ?_) ?_ ?_
        rotate_left
        · show Act.put _ none _ = _
          simp only [Act.put]
          rfl
        refine done_ (by kernel_rfl) ?_
        go_wp2
        go_meet
        case rel => exact ⟨_, rfl, setRow_heap _ _ _ _ _ _ HP.out, HPL.out, below_setRow hHeld HPL.out _⟩
    · refine value_ (by rfl) rfl (event_alloc37 rfl) ?_
      have HP := Aside0.mk (heap_alloc_new w3.drew (.cells zero37 37))
      have HPL := Aside0.mk hHeld.size
      refine hK.out _ _ (below_alloc hHeld _) (fun hHeld => ?_)
      clear hK K
      refine norm_ (a' := ?_) ?_ ?_
      rotate_left
      · show Act.put _ (some 4) _ = _
        simp only [Act.put, List.setIfInBounds_toArray, List.set_cons_zero, List.set_cons_succ, i64_w, i32_w]
        rfl
      refine one_ (i := 1) (N := some 33) #[true, true, true, false, true, false, true, false, true, true, true, true, false, false, true, false] rfl rfl (by kernel_rfl) (by decide) (fun K hK => ?_)
      refine goes_ Try.func32 (by kernel_rfl) rfl #[.slice (some ⟨g, 0, none⟩) 160 c, .int .i64 4] (by rfl) rfl rfl (by (try simp only [List.map_toArray, List.map_cons, List.map_nil]); first | done | rfl) ?_
      refine (get_c g 160 c bs 4 4 _ rfl HL.out.symm (Kd.C_below HR0.out hHeld) HBY.out (by decide) (by decide)).mono ?_
      rintro e x16 ⟨rfl, hb⟩
      refine ⟨_, rfl, ?_⟩
      have HP2 := Aside0.mk ((hb.block _ (blk_lt HP.out)).trans HP.out)
      clear HP
      have HP := HP2
      clear HP2
      refine hK.out _ _ (below_then hHeld hHeld.size hb) (fun hHeld => ?_)
      clear hK K
      refine norm_ (a' := ?_) ?_ ?_
      rotate_left
      · show Act.put _ (some 33) _ = _
        simp only [Act.put, List.setIfInBounds_toArray, List.set_cons_zero, List.set_cons_succ, i64_w, i32_w]
        rfl
      refine one_ (i := 3) (N := some 35) #[true, true, true, true, true, false, true, false, true, true, true, true, false, false, true, false] rfl rfl (by kernel_rfl) (by decide) (fun K hK => ?_)
      refine goes_ Try.func32 (by kernel_rfl) rfl #[.slice (some ⟨g, 0, none⟩) 160 c, .int .i64 8] (by rfl) rfl rfl (by (try simp only [List.map_toArray, List.map_cons, List.map_nil]); first | done | rfl) ?_
      refine (get_c g 160 c bs 8 8 _ rfl HL.out.symm (Kd.C_below HR0.out hHeld) HBY.out (by decide) (by decide)).mono ?_
      rintro e x17 ⟨rfl, hb⟩
      refine ⟨_, rfl, ?_⟩
      have HP2 := Aside0.mk ((hb.block _ (blk_lt HP.out)).trans HP.out)
      clear HP
      have HP := HP2
      clear HP2
      refine hK.out _ _ (below_then hHeld hHeld.size hb) (fun hHeld => ?_)
      clear hK K
      refine norm_ (a' := ?_) ?_ ?_
      rotate_left
      · show Act.put _ (some 35) _ = _
        simp only [Act.put, List.setIfInBounds_toArray, List.set_cons_zero, List.set_cons_succ, i64_w, i32_w]
        rfl
      refine one_ (i := 5) (N := some 37) #[true, true, true, true, true, true, true, false, true, true, true, true, false, false, true, false] rfl rfl (by kernel_rfl) (by decide) (fun K hK => ?_)
      refine goes_ Try.func32 (by kernel_rfl) rfl #[.slice (some ⟨g, 0, none⟩) 160 c, .int .i64 12] (by rfl) rfl rfl (by (try simp only [List.map_toArray, List.map_cons, List.map_nil]); first | done | rfl) ?_
      refine (get_c g 160 c bs 12 12 _ rfl HL.out.symm (Kd.C_below HR0.out hHeld) HBY.out (by decide) (by decide)).mono ?_
      rintro e x18 ⟨rfl, hb⟩
      refine ⟨_, rfl, ?_⟩
      have HP2 := Aside0.mk ((hb.block _ (blk_lt HP.out)).trans HP.out)
      clear HP
      have HP := HP2
      clear HP2
      refine hK.out _ _ (below_then hHeld hHeld.size hb) (fun hHeld => ?_)
      clear hK K
      refine norm_ (a' := ?_) ?_ ?_
      rotate_left
      · show Act.put _ (some 37) _ = _
        simp only [Act.put, List.setIfInBounds_toArray, List.set_cons_zero, List.set_cons_succ, i64_w, i32_w]
        rfl
      refine one_ (i := 7) (N := some 39) #[true, true, true, true, true, true, true, true, true, true, true, true, false, false, true, false] rfl rfl (by kernel_rfl) (by decide) (fun K hK => ?_)
      refine goes_ Try.func32 (by kernel_rfl) rfl #[.slice (some ⟨g, 0, none⟩) 160 c, .int .i64 16] (by rfl) rfl rfl (by (try simp only [List.map_toArray, List.map_cons, List.map_nil]); first | done | rfl) ?_
      refine (get_c g 160 c bs 16 16 _ rfl HL.out.symm (Kd.C_below HR0.out hHeld) HBY.out (by decide) (by decide)).mono ?_
      rintro e x19 ⟨rfl, hb⟩
      refine ⟨_, rfl, ?_⟩
      have HP2 := Aside0.mk ((hb.block _ (blk_lt HP.out)).trans HP.out)
      clear HP
      have HP := HP2
      clear HP2
      refine hK.out _ _ (below_then hHeld hHeld.size hb) (fun hHeld => ?_)
      clear hK K
      refine norm_ (a' := ?_) ?_ ?_
      rotate_left
      · show Act.put _ (some 39) _ = _
        simp only [Act.put, List.setIfInBounds_toArray, List.set_cons_zero, List.set_cons_succ, i64_w, i32_w]
        rfl
      refine one_ (i := 12) (N := some 44) #[true, true, true, true, true, true, true, true, true, true, true, true, true, false, true, false] rfl rfl (by kernel_rfl) (by decide) (fun K hK => ?_)
      refine goes_ Try.func32 (by kernel_rfl) rfl #[.slice (some ⟨g, 0, none⟩) 160 c, .int .i64 24] (by rfl) rfl rfl (by (try simp only [List.map_toArray, List.map_cons, List.map_nil]); first | done | rfl) ?_
      refine (get_c g 160 c bs 24 24 _ rfl HL.out.symm (Kd.C_below HR0.out hHeld) HBY.out (by decide) (by decide)).mono ?_
      rintro e x20 ⟨rfl, hb⟩
      refine ⟨_, rfl, ?_⟩
      have HP2 := Aside0.mk ((hb.block _ (blk_lt HP.out)).trans HP.out)
      clear HP
      have HP := HP2
      clear HP2
      refine hK.out _ _ (below_then hHeld hHeld.size hb) (fun hHeld => ?_)
      clear hK K
      refine norm_ (a' := ?_) ?_ ?_
      rotate_left
      · show Act.put _ (some 44) _ = _
        simp only [Act.put, List.setIfInBounds_toArray, List.set_cons_zero, List.set_cons_succ, i64_w, i32_w]
        rfl
      refine pure_ (i := 13) (N := some 45) (v := ?_) (a' := ?_) #[true, true, true, true, true, true, true, true, true, true, true, true, true, true, true, false] rfl rfl (by kernel_rfl) (fun _ _ _ h => h) (Or.inl ⟨by rfl, ?_⟩) ?_ ?_
      rotate_left
      · intro w'
        go_simp
        with_reducible rfl
      rotate_left
      · simp only [Act.put, List.setIfInBounds_toArray, List.set_cons_zero, List.set_cons_succ, i64_w, i32_w]
        rfl
      refine last_ (i := 15) (N := none) #[true, true, true, true, true, true, true, true, true, true, true, true, true, true, true, true] rfl rfl (by kernel_rfl) (by decide) (fun K hK => ?_)
      rw [if_pos (by rfl)]
      refine wp_store_row 37 (.tmp 4) (.tmp 45) rfl _ (recs (num bs 4) (num bs 8) (num bs 12) (num bs 16) (at_ bs 20) (num bs 24) (.slice none 0 0)) rfl rfl 37 zero37 HP.out (by kernel_rfl) rfl (recs_one _ _ _ _ _ _ _ _ _) ?_
      refine hK.out _ _ ?_
      clear hK K
      refine norm_ (a' := ?_) ?_ ?_
      rotate_left
      · show Act.put _ none _ = _
        simp only [Act.put]
        rfl
      refine done_ (by kernel_rfl) ?_
      go_wp2
      go_meet
      case rel => exact ⟨_, rfl, setRow_heap _ _ _ _ _ _ HP.out, HPL.out, below_setRow hHeld HPL.out _⟩
  case rest =>
    clear HB hx21 hq21
    obtain ⟨P, rfl, hp, hpl, hb⟩ := hcut
    have HP := Aside0.mk hp
    have HPL := Aside0.mk hpl
    have HB := Aside0.mk hb
    clear hp hpl hb
    have HX := Aside0.mk (show at_ bs 21 = at_ bs 21 from rfl)
    have HIL := Aside0.mk (show (init bs).length = at_ bs 21 by unfold init; rw [List.length_take, List.length_drop, HL.out]; omega)
    have HW8 := Aside0.mk (show wrap64 (28 + wrap64 ((at_ bs 21 : Nat) : Int)) = 28 + ((at_ bs 21 : Nat) : Int) by unfold wrap64; omega)
    have HT8 := Aside0.mk (show (28 + ((at_ bs 21 : Nat) : Int)).toNat - 28 = at_ bs 21 by omega)
    go_wp2_with (fail)
    refine start_ (n := 12) (S := (fun w' => Below W0.heap.size W0 w' ∧ w'.heap[P]? = some (.cells (recs (num bs 4) (num bs 8) (num bs 12) (num bs 16) (at_ bs 20) (num bs 24) (.slice none 0 0)) 37 (0, 0)))) (ds := [11]) #[false, false, false, false, false, false, false, false, false, false, false, false] (by kernel_rfl) rfl rfl ⟨below_drew1 HB.out, HP.out⟩ (fun hHeld => ?_)
    refine pure_ (i := 0) (N := some 46) (v := ?_) (a' := ?_) #[true, false, false, false, false, false, false, false, false, false, false, false] rfl rfl (by kernel_rfl) (fun _ _ _ h => h) (Or.inl ⟨by rfl, ?_⟩) ?_ ?_
    rotate_left
    · intro w'
      go_simp
      with_reducible rfl
    rotate_left
    · simp only [Act.put, List.setIfInBounds_toArray, List.set_cons_zero, List.set_cons_succ, i64_w, i32_w]
      rfl
    refine pure_ (i := 2) (N := some 48) (v := ?_) (a' := ?_) #[true, false, true, false, false, false, false, false, false, false, false, false] rfl rfl (by kernel_rfl) (fun _ _ _ h => h) (Or.inl ⟨by rfl, ?_⟩) ?_ ?_
    rotate_left
    · intro w'
      go_simp
      with_reducible rfl
    rotate_left
    · simp only [Act.put, List.setIfInBounds_toArray, List.set_cons_zero, List.set_cons_succ, i64_w, i32_w]
      rfl
    refine pure_ (i := 3) (N := some 49) (v := ?_) (a' := ?_) #[true, false, true, true, false, false, false, false, false, false, false, false] rfl rfl (by kernel_rfl) (fun _ _ _ h => h) (Or.inl ⟨by rfl, ?_⟩) ?_ ?_
    rotate_left
    · intro w'
      go_simp
      with_reducible rfl
    rotate_left
    · simp only [Act.put, List.setIfInBounds_toArray, List.set_cons_zero, List.set_cons_succ, i64_w, i32_w]
      rfl
    refine pure_ (i := 4) (N := some 50) (v := ?_) (a' := ?_) #[true, false, true, true, true, false, false, false, false, false, false, false] rfl rfl (by kernel_rfl) (fun _ _ _ h => h) (Or.inl ⟨by rfl, ?_⟩) ?_ ?_
    rotate_left
    · intro w'
      go_simp
      with_reducible rfl
    rotate_left
    · simp only [Act.put, List.setIfInBounds_toArray, List.set_cons_zero, List.set_cons_succ, i64_w, i32_w]
      rfl
    refine take_ (i := 1) (N := some 47) (v := ?_) (a' := ?_) #[true, true, true, true, true, false, false, false, false, false, false, false] rfl rfl (by kernel_rfl) (fun _ _ _ h => h) (Or.inl ⟨by rfl, ?_⟩) hHeld ?_ ?_
    rotate_left
    · intro w' hw'
      have hx6 : w'.cell? ⟨P, 6, none⟩ = some (.slice none 0 0) := cell_of_row w' P 6 _ 37 (0, 0) hw'.2
      go_simp
      with_reducible rfl
    rotate_left
    · simp only [Act.put, List.setIfInBounds_toArray, List.set_cons_zero, List.set_cons_succ, i64_w, i32_w]
      rfl
    refine take_ (i := 5) (N := some 51) (v := ?_) (a' := ?_) #[true, true, true, true, true, true, false, false, false, false, false, false] rfl rfl (by kernel_rfl) (fun _ _ _ h => h) (Or.inl ⟨by rfl, ?_⟩) hHeld ?_ ?_
    rotate_left
    · intro w' hw'
      have hx21 : w'.cell? ⟨g, 21, none⟩ = some (.int .u8 ((at_ bs 21 : Nat) : Int)) := byte_at (Kd.C_below HR0.out hw'.1) HBY.out 21 (by decide) (by rw [HL.out]; decide)
      go_simp
      with_reducible rfl
    rotate_left
    · simp only [Act.put, List.setIfInBounds_toArray, List.set_cons_zero, List.set_cons_succ, i64_w, i32_w]
      rfl
    refine pure_ (i := 6) (N := some 52) (v := ?_) (a' := ?_) #[true, true, true, true, true, true, true, false, false, false, false, false] rfl rfl (by kernel_rfl) (fun _ _ _ h => h) (Or.inl ⟨by rfl, ?_⟩) ?_ ?_
    rotate_left
    · intro w'
      go_simp
      with_reducible rfl
    rotate_left
    · simp only [Act.put, List.setIfInBounds_toArray, List.set_cons_zero, List.set_cons_succ, i64_w, i32_w]
      rfl
    refine pure_ (i := 7) (N := some 53) (v := ?_) (a' := ?_) #[true, true, true, true, true, true, true, true, false, false, false, false] rfl rfl (by kernel_rfl) (fun _ _ _ h => h) (Or.inl ⟨by rfl, ?_⟩) ?_ ?_
    rotate_left
    · intro w'
      go_simp
      with_reducible rfl
    rotate_left
    · simp only [Act.put, List.setIfInBounds_toArray, List.set_cons_zero, List.set_cons_succ, i64_w, i32_w]
      rfl
    refine pure_ (i := 8) (N := some 54) (v := ?_) (a' := ?_) #[true, true, true, true, true, true, true, true, true, false, false, false] rfl rfl (by kernel_rfl) (fun _ _ _ h => h) (Or.inl ⟨by rfl, ?_⟩) ?_ ?_
    rotate_left
    · intro w'
      refine event_slice28 (.tmp 48) (.tmp 53) g c (at_ bs 21) ?_ ?_ ?_ h2 hc <;> rfl
    rotate_left
    · simp only [Act.put, List.setIfInBounds_toArray, List.set_cons_zero, List.set_cons_succ, i64_w, i32_w]
      rfl
    refine one_ (i := 9) (N := some 55) #[true, true, true, true, true, true, true, true, true, true, false, false] rfl rfl (by kernel_rfl) (by decide) (fun K hK => ?_)
    refine Kd.R_append_rows_step (Kd.int .u8) (w0 := wc.drew) wc.drew.heap.size (by rfl) (.tmp 47) (.tmp 54) 24 5 (.int .u8 0) 1 rfl Try.underlying24 info5 rfl (by decide) (by decide) (.slice none 0 0) [] (init bs) (some ⟨g, 28, none⟩) (at_ bs 21) (c - 28) (fun _ => True) (fun _ => False) rfl rfl ?aO ?aR (fun _ _ h => h) (fun _ h => h.elim) (fun _ _ => trivial) ?aB ?aS ?aL ?_
    case aO => exact Kd.R_nil _ _ _ _ _
    case aR => exact C_sub (Kd.C_below HR0.out hHeld.1) 28 (at_ bs 21) (by omega)
    case aB => exact Below.refl _ _
    case aS => exact Nat.le_refl _
    case aL => simp; omega
    intro v1 w5 ho hb5 hg hat
    rw [List.nil_append] at ho
    have HV1 := Aside0.mk ho
    have HB5 := Aside0.mk hb5
    have HPlt := Aside0.mk (show P < wc.heap.size from blk_lt HP.out)
    clear ho hg hat hb5
    refine hK.out _ _ ⟨below_then hHeld.1 hHeld.1.size HB5.out, (HB5.out.block P HPlt.out).trans hHeld.2⟩ (fun hHeld => ?_)
    clear hK K
    refine norm_ (a' := ?_) ?_ ?_
    rotate_left
    · show Act.put _ (some 55) _ = _
      simp only [Act.put, List.setIfInBounds_toArray, List.set_cons_zero, List.set_cons_succ, i64_w, i32_w]
      rfl
    refine pure_ (i := 10) (N := some 56) (v := ?_) (a' := ?_) #[true, true, true, true, true, true, true, true, true, true, true, false] rfl rfl (by kernel_rfl) (fun _ _ _ h => h) (Or.inl ⟨by rfl, ?_⟩) ?_ ?_
    rotate_left
    · intro w'
      go_simp
      with_reducible rfl
    rotate_left
    · simp only [Act.put, List.setIfInBounds_toArray, List.set_cons_zero, List.set_cons_succ, i64_w, i32_w]
      rfl
    have hx6 : w5.cell? ⟨P, 6, none⟩ = some (.slice none 0 0) := cell_of_row w5 P 6 _ 37 (0, 0) hHeld.2
    have hfr6 : w5.frozen? ⟨P, 6, none⟩ = false := frozen_of_row w5 P 6 _ 37 hHeld.2
    obtain ⟨A1, c1, e1⟩ := Kd.R_slice HV1.out
    subst e1
    refine last_ (i := 11) (N := none) #[true, true, true, true, true, true, true, true, true, true, true, true] rfl rfl (by kernel_rfl) (by decide) (fun K hK => ?_)
    refine skip_ (w1 := ?_) (by rfl) rfl ?_ ?_
    rotate_left
    · go_simp
      rfl
    refine hK.out _ _ ?_
    clear hK K
    refine done_ (by kernel_rfl) ?_
    have HP6 := Aside0.mk (show (w5.setCell ⟨P, 6, none⟩ (.slice A1 (init bs).length c1)).heap[P]? = some (.cells (recs (num bs 4) (num bs 8) (num bs 12) (num bs 16) (at_ bs 20) (num bs 24) (.slice A1 (init bs).length c1)) 37 (0, 0)) from heap_setCell_same w5 P 6 _ 37 _ hHeld.2)
    have HV6 := Aside0.mk (show (Kd.int .u8).R 5 (w5.setCell ⟨P, 6, none⟩ (.slice A1 (init bs).length c1)) wc.drew.heap.size (fun _ => True) (.slice A1 (init bs).length c1) (init bs) from Kd.R_mono (Kd.R_far (p := ⟨P, 6, none⟩) (Kd.R_mono (Kd.R_bound HV1.out) (ok' := fun k => k ≠ P) (fun k hk => by have h1 := hk.2.1; have h2 : P < wc.drew.heap.size := HPlt.out; omega)) (fun k hk => hk) _) (fun _ _ => trivial))
    have HB6 := Aside0.mk (show Below W0.heap.size W0 (w5.setCell ⟨P, 6, none⟩ (.slice A1 (init bs).length c1)) from hHeld.1.setCell (p := ⟨P, 6, none⟩) HPL.out _)
    clear hHeld hx6 hfr6 HV1 HB HP
    generalize w5.setCell ⟨P, 6, none⟩ (.slice A1 (init bs).length c1) = w6 at *
    have HIN := Aside0.mk (fun (n : Int) (hn : n ∈ init bs) => HBY.out n (List.mem_of_mem_drop (List.mem_of_mem_take hn)))
    have HN4 := Aside0.mk (And.intro (num_lt HBY.out 4) (And.intro (num_lt HBY.out 8) (And.intro (num_lt HBY.out 12) (And.intro (num_lt HBY.out 16) (And.intro (at_lt HBY.out 20) (num_lt HBY.out 24))))))
    have HZ := Aside0.mk ((HB6.out.block w.heap.size HLT.out).trans HZ0.out)
    go_wp2_with ((with_reducible refine gate_dst (N := 58) rfl ?_); refine wpList_load_row rfl 37 (.tmp 4) rfl P rfl 37 (recs (num bs 4) (num bs 8) (num bs 12) (num bs 16) (at_ bs 20) (num bs 24) (.slice A1 (init bs).length c1)) (0, 0) _ HP6.out Try.underlying37 rfl (by kernel_rfl) ?_)
    by_cases hri : right (num bs 12) (at_ bs 20) (num bs 24) (init bs).length = true
    · refine (encode_ok (num bs 4) (num bs 8) (num bs 12) (num bs 16) (at_ bs 20) (num bs 24) A1 (init bs).length c1 (init bs) _ HN4.out.1 HN4.out.2.1 HN4.out.2.2.1 HN4.out.2.2.2.1 HN4.out.2.2.2.2.1 HN4.out.2.2.2.2.2 rfl (Kd.R_reads' HV6.out).2.2 (Kd.R_reads' HV6.out).2.1 HIN.out hri).mono ?_
      rintro e w7 ⟨v2, rfl, ho, hb⟩
      have HO := Aside0.mk ho
      have HRI := Aside0.mk hri
      have HB7 := Aside0.mk (below_then HB6.out HB6.out.size hb)
      have HV7 := Aside0.mk (Kd.R_below HV6.out hb)
      have HP7 := Aside0.mk ((hb.block P (blk_lt HP6.out)).trans HP6.out)
      have HZ7 := Aside0.mk ((HB7.out.block w.heap.size HLT.out).trans HZ0.out)
      have HEB := Aside0.mk (bytes_enc (s := num bs 4) (f := num bs 8) (b := num bs 12) (m := num bs 16) (d := num bs 24) HN4.out.2.2.2.2.1 HIN.out)
      have HG := Aside0.mk (show (enc (num bs 4) (num bs 8) (num bs 12) (num bs 16) (at_ bs 20) (num bs 24) (init bs) = bs) → Good bs from fun h => ⟨HL.out, H0.out, H1.out, h2, by rw [← HIL.out]; exact hri, h⟩)
      clear ho hri hb HB6 HV6 HP6 HZ
      obtain ⟨A2, c2, e2⟩ := Kd.R_slice HO.out
      subst e2
      generalize hE : enc (num bs 4) (num bs 8) (num bs 12) (num bs 16) (at_ bs 20) (num bs 24) (init bs) = E at *
      have HE := Aside0.mk hE
      clear hE
      have hs1 := Kd.C_string (P := Try.prog) (c := c2) Try.underlying24 Try.underlying5 Try.underlying9 (Kd.R_reads' HO.out).2.2
      have hs2 := Kd.C_string (P := Try.prog) (c := c) Try.underlying24 Try.underlying5 Try.underlying9 (Kd.C_below HR0.out HB7.out)
      by_cases hq : E = bs
      · have hne : ((strOfNums E).toList == (strOfNums bs).toList) = true := by rw [hq]; simp
        have HQ := Aside0.mk hq
        clear hq
        go_wp2_with (first | ((with_reducible refine gate_dst (N := 72) rfl ?_); refine wpList_load_row rfl 37 (.tmp 4) rfl P rfl 37 (recs (num bs 4) (num bs 8) (num bs 12) (num bs 16) (at_ bs 20) (num bs 24) (.slice A1 (init bs).length c1)) (0, 0) _ HP7.out Try.underlying37 rfl (by kernel_rfl) ?_) | (refine wpList_store_row rfl 37 (.tmp 2) (.tmp 72) rfl w.heap.size (recs (num bs 4) (num bs 8) (num bs 12) (num bs 16) (at_ bs 20) (num bs 24) (.slice A1 (init bs).length c1)) rfl rfl 37 zero37 HZ7.out (by kernel_rfl) rfl (recs_one _ _ _ _ _ _ _ _ _) ?_))
        have HWL := Aside0.mk (show w.heap.size < wc.drew.heap.size by have h1 := HLT.out; have h2 := HPL.out; have h3 : P < wc.drew.heap.size := HPlt.out; omega)
        refine bodyPost_ret (v := .tuple #[.agg (recs (num bs 4) (num bs 8) (num bs 12) (num bs 16) (at_ bs 20) (num bs 24) (.slice A1 (init bs).length c1)), .int .i64 0]) (results25 rfl rfl (setRow_heap _ _ _ _ _ _ HZ7.out) rfl) rfl ⟨Or.inl ⟨_, rfl, ?_, HG.out HQ.out⟩, below_setRow (below_step HW0.out HB7.out) (Nat.le_refl _) _⟩
        refine Kd.R_lower (Kd.R_mono (Kd.R_step (Kd.R_mono (Kd.R_bound HV7.out) (ok' := fun k => k ≠ w.heap.size) (fun k hk => ?_)) (fun k hk _ => setRow_other w7 _ k _ hk)) (fun _ _ => trivial)) (Nat.le_of_lt HWL.out)
        have h1 := hk.2.1
        have h2 := HWL.out
        omega
      · have hne : ((strOfNums E).toList == (strOfNums bs).toList) = false := by rw [beq_eq_false_iff_ne]; exact fun h => hq (str_inj HEB.out HBY.out h)
        have HQ := Aside0.mk hq
        clear hq
        have HZ := HZ7
        go_wp2_with (refine wpList_store_row rfl 37 (.tmp 2) (.tmp 71) rfl w.heap.size zero37 rfl rfl 37 zero37 (HZ.out) (by kernel_rfl) rfl zero37_one ?_)
        exact bodyPost_ret (v := .tuple #[.agg zero37, .int .i64 7]) (results25 rfl rfl (setRow_heap _ _ _ _ _ _ HZ.out) rfl) rfl ⟨Or.inr ⟨rfl, fun h => HQ.out (HE.out.symm.trans h.2.2.2.2.2)⟩, below_setRow (below_step HW0.out HB7.out) (Nat.le_refl _) _⟩
    · have HRI := Aside0.mk hri
      refine (encode_bad (num bs 4) (num bs 8) (num bs 12) (num bs 16) (at_ bs 20) (num bs 24) A1 (init bs).length c1 _ (by simpa using hri)).mono ?_
      rintro e w7 ⟨rfl, hb⟩
      have HB7 := Aside0.mk (below_then HB6.out HB6.out.size hb)
      clear HZ hri hb
      have HZ := Aside0.mk ((HB7.out.block w.heap.size HLT.out).trans HZ0.out)
      go_wp2_with (refine wpList_store_row rfl 37 (.tmp 2) (.tmp 71) rfl w.heap.size zero37 rfl rfl 37 zero37 (HZ.out) (by kernel_rfl) rfl zero37_one ?_)
      exact bodyPost_ret (v := .tuple #[.agg zero37, .int .i64 7]) (results25 rfl rfl (setRow_heap _ _ _ _ _ _ HZ.out) rfl) rfl ⟨Or.inr ⟨rfl, fun h => HRI.out (by rw [HIL.out]; exact h.2.2.2.2.1)⟩, below_setRow (below_step HW0.out HB7.out) (Nat.le_refl _) _⟩
end Go.Proofs.Ytjblklejjemdhaa.Krec
