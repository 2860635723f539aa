/- The reference's Parse, walked: what it answers at the bytes of a right record. -/
import Derived.Test.YtjblklejjemdhaaKrecL
namespace Go.Proofs.Ytjblklejjemdhaa.Krec
set_option linter.unusedVariables false
set_option linter.unusedSimpArgs false
open Go.RowKit Go.Proofs.YtjblklejjemdhaaW.PrintWords Go.Proofs.YtjblklejjemdhaaW.PrintLast Go.Proofs.YtjblklejjemdhaaW.PrintMore Kbase Kcrc
def recr (s f b m p d : Nat) (v : Value) : Array Value := #[.int .u32 (s : Int), .int .u32 (f : Int), .int .u32 (b : Int), .int .u32 (m : Int), .int .u32 (d : Int), .int .u8 (p : Int), v]
theorem recr_one (s f b m p d : Nat) (A : Option Addr) (n c : Nat) : (recr s f b m p d (.slice A n c)).all (·.oneCell') = true := by
  rw [Array.all_eq_true_iff_forall_mem]
  intro v hv
  simp [recr] at hv
  rcases hv with rfl | rfl | rfl | rfl | rfl | rfl | rfl <;> rfl
section
variable {ops : Array Oper} {rest : List Oper} {o : Oper} {a : Act} {Q : Exit → Act → World → Prop} {W : World}
theorem slice28b (N : Tmp) (hd : o.dst = some N) (hgd : o.guard = none) (s hi : Operand) (g c x : Nat) (ho : o.op = .slice 24 s (some (.const (.int .i64 28))) (some hi) none) (hs : a.eval s = .slice (some ⟨g, 0, none⟩) 160 c) (y : Int) (h : a.eval hi = .int .i64 y) (hy : y = 28 + (x : Int)) (hx : x ≤ 128) (hc : 160 ≤ c)
    (hk : wpList Try.prog ops Q rest (a.put (some N) (.slice (some ⟨g, 28, none⟩) x (c - 28))) W) : wpList Try.prog ops Q (o :: rest) a W := by
  rw [← hd] at hk
  refine Kd.event_run hgd (event_slice28 s hi g c x ho hs ?_ hx hc) hk
  rw [h, hy]
  congr 1
  unfold wrap64
  omega
end
/-- What the loop of the reference has compared. -/
def CmpAt (bs E : List Int) (W7 : World) (v : Value) (wr : World) : Prop := ∃ k : Nat, k ≤ 160 ∧ v = .int .i64 (k : Int) ∧ Aside0 (∀ i, i < k → at_ bs i = at_ E i) ∧ Aside0 (Below W7.heap.size W7 wr)
theorem all_same (bs E : List Int) (hb : Bytes bs) (he : Bytes E) (hl : bs.length = 160) (hle : E.length = 160) (h : ∀ i, i < 160 → at_ bs i = at_ E i) : bs = E := by
  apply List.ext_getElem (by rw [hl, hle])
  intro i h1 h2
  rw [at_val hb i h1, at_val he i h2, h i (by omega)]
/-- Behind the reading of the numbers: where the record lies. -/
def RefrAt (bs : List Int) (W0 : World) (v4 : Value) (wc : World) : Prop := ∃ P, v4 = .pointer (some ⟨P, 0, none⟩) ∧ wc.heap[P]? = some (.cells (recr (num bs 4) (num bs 8) (num bs 12) (num bs 16) (at_ bs 20) (num bs 24) (.slice none 0 0)) 44 (0, 0)) ∧ W0.heap.size ≤ P ∧ Below W0.heap.size W0 wc
def RParsed (bs : List Int) (w : World) (e : Ending) (w' : World) : Prop := ((∃ A n c, e = .returned (.tuple #[.agg (recr (num bs 4) (num bs 8) (num bs 12) (num bs 16) (at_ bs 20) (num bs 24) (.slice A n c)), .int .i64 0]) ∧ (Kd.int .u8).R 5 w' w.heap.size (fun _ => True) (.slice A n c) (init bs) ∧ Good bs) ∨ (e = .returned (.tuple #[.agg zero44, .int .i64 (code bs : Int)]) ∧ ¬ Good bs)) ∧ Below w.heap.size w w'
set_option maxHeartbeats 8000000 in
set_option maxRecDepth 100000 in
theorem rparse_deep (g c : Nat) (bs : List Int) (w : World) (hl : bs.length = 160) (hr : (Kd.int .u8).C w (some ⟨g, 0, none⟩) 160 bs) (hby : Bytes bs) (hc : 160 ≤ c) (h0 : num bs 0 = 827216706) (h1 : rsum (bs.take 156) = num bs 156) :
    Calls Try.prog 27 #[.slice (some ⟨g, 0, none⟩) 160 c] w (RParsed bs w) := by
  have H1 := Aside0.mk h1
  have HCODE := Aside0.mk (show code bs = 7 by unfold code; rw [if_neg (fun h => h.2.2 h1)])
  clear h1
  have H0 := Aside0.mk h0
  clear h0
  have h4c : ¬ c = 4 := by omega
  have h8c : ¬ c = 8 := by omega
  have h12c : ¬ c = 12 := by omega
  have h16c : ¬ c = 16 := by omega
  have h24c : ¬ c = 24 := by omega
  have h28c : ¬ c = 28 := by omega
  have h156c : ¬ c = 156 := by omega
  have h4i : (4 : Int) ≤ (c : Int) := by omega
  have h8i : (8 : Int) ≤ (c : Int) := by omega
  have h12i : (12 : Int) ≤ (c : Int) := by omega
  have h16i : (16 : Int) ≤ (c : Int) := by omega
  have h20i : (20 : Int) ≤ (c : Int) := by omega
  have h28i : (28 : Int) ≤ (c : Int) := by omega
  have h156i : (156 : Int) ≤ (c : Int) := by omega
  have HR := Aside0.mk hr
  have HBY := Aside0.mk hby
  have HL := Aside0.mk hl
  clear hr hby hl
  have HZ0 := Aside0.mk (heap_alloc_new w (.cells zero44 44))
  have HLT := Aside0.mk (show w.heap.size < (w.alloc (.cells zero44 44)).heap.size by simp)
  have HW0 := Aside0.mk (below_alloc (Below.refl w.heap.size w) (.cells zero44 44))
  go_enter Try.func27, Try.ntmps27
  go_wp2_with ((with_reducible refine gate_dst (N := 2) rfl ?_); refine alloc44 2 rfl rfl rfl ?_)
  have HR0 := Aside0.mk (Kd.C_alloc HR.out (.cells zero44 44))
  generalize w.alloc (.cells zero44 44) = W0 at *
  have HB := Aside0.mk (Below.refl W0.heap.size W0)
  refine (ref_num_c g 0 4 c bs 0 _ (by rw [HL.out]; exact Kd.C_below HR0.out HB.out) HBY.out rfl (by rw [HL.out]; decide) (by decide) (by decide)).mono ?_
  rintro e w1 ⟨rfl, hb⟩
  have n0_ := Aside0.mk (below_then HB.out HB.out.size hb)
  clear HB
  have HB := n0_
  clear n0_ hb
  rw [H0.out]
  go_upto_region 3 with (fail)
  refine start_ (n := 7) (S := (fun w' => Below W0.heap.size W0 w')) (ds := []) #[false, false, false, false, false, false, false] (by kernel_rfl) rfl rfl (below_drew1 HB.out) (fun hHeld => ?_)
  refine pure_ (i := 0) (N := some 19) (v := ?_) (a' := ?_) #[true, false, false, false, false, false, false] rfl rfl (by kernel_rfl) (fun _ _ _ h => h) (Or.inl ⟨by rfl, ?_⟩) ?_ ?_
  rotate_left
  · intro w'
    go_simp
    with_reducible rfl
  rotate_left
  · simp only [Act.put, List.setIfInBounds_toArray, List.set_cons_zero, List.set_cons_succ, i64_w, i32_w]
    rfl
  refine pure_ (i := 1) (N := some 20) (v := ?_) (a' := ?_) #[true, true, false, false, false, false, false] rfl rfl (by kernel_rfl) (fun _ _ _ h => h) (Or.inl ⟨by rfl, ?_⟩) ?_ ?_
  rotate_left
  · intro w'
    go_simp
    with_reducible rfl
  rotate_left
  · simp only [Act.put, List.setIfInBounds_toArray, List.set_cons_zero, List.set_cons_succ, i64_w, i32_w]
    rfl
  refine pure_ (i := 3) (N := some 22) (v := ?_) (a' := ?_) #[true, true, false, true, false, false, false] rfl rfl (by kernel_rfl) (fun _ _ _ h => h) (Or.inl ⟨by rfl, ?_⟩) ?_ ?_
  rotate_left
  · intro w'
    go_simp
    with_reducible rfl
  rotate_left
  · simp only [Act.put, List.setIfInBounds_toArray, List.set_cons_zero, List.set_cons_succ, i64_w, i32_w]
    rfl
  refine pure_ (i := 4) (N := some 23) (v := ?_) (a' := ?_) #[true, true, false, true, true, false, false] rfl rfl (by kernel_rfl) (fun _ _ _ h => h) (Or.inl ⟨by rfl, ?_⟩) ?_ ?_
  rotate_left
  · intro w'
    go_simp
    with_reducible rfl
  rotate_left
  · simp only [Act.put, List.setIfInBounds_toArray, List.set_cons_zero, List.set_cons_succ, i64_w, i32_w]
    rfl
  refine one_ (i := 2) (N := some 21) #[true, true, true, true, true, false, false] rfl rfl (by kernel_rfl) (by decide) (fun K hK => ?_)
  refine goes_ Try.func33 (by kernel_rfl) rfl #[.slice (some ⟨g, 156, none⟩) 4 (c - 156)] (by rfl) rfl rfl (by (try simp only [List.map_toArray, List.map_cons, List.map_nil]); first | done | rfl) ?_
  refine (ref_num_c g 156 4 (c - 156) bs 156 _ (by rw [HL.out]; exact Kd.C_below HR0.out hHeld) HBY.out rfl (by rw [HL.out]; decide) (by decide) (by decide)).mono ?_
  rintro e w2 ⟨rfl, hb⟩
  refine ⟨_, rfl, ?_⟩
  refine hK.out _ _ (below_then hHeld hHeld.size hb) (fun hHeld => ?_)
  clear hK K
  refine norm_ (a' := ?_) ?_ ?_
  rotate_left
  · show Act.put _ (some 21) _ = _
    simp only [Act.put, List.setIfInBounds_toArray, List.set_cons_zero, List.set_cons_succ, i64_w, i32_w]
    rfl
  refine one_ (i := 5) (N := some 24) #[true, true, true, true, true, true, false] rfl rfl (by kernel_rfl) (by decide) (fun K hK => ?_)
  refine goes_ Try.func26 (by kernel_rfl) rfl #[.slice (some ⟨g, 0, none⟩) 156 c] (by rfl) rfl rfl (by (try simp only [List.map_toArray, List.map_cons, List.map_nil]); first | done | rfl) ?_
  refine (ref_sum_of (some ⟨g, 0, none⟩) 156 c (bs.take 156) _ (by rw [List.length_take, HL.out]; rfl) (C_take (Kd.C_below HR0.out hHeld) 156 (by decide)) (fun n hn => HBY.out n (List.mem_of_mem_take hn))).mono ?_
  rintro e w3 ⟨rfl, hb⟩
  refine ⟨_, rfl, ?_⟩
  refine hK.out _ _ (below_then hHeld hHeld.size hb) (fun hHeld => ?_)
  clear hK K
  refine norm_ (a' := ?_) ?_ ?_
  rotate_left
  · show Act.put _ (some 24) _ = _
    simp only [Act.put, List.setIfInBounds_toArray, List.set_cons_zero, List.set_cons_succ, i64_w, i32_w]
    rfl
  refine pure_ (i := 6) (N := some 25) (v := ?_) (a' := ?_) #[true, true, true, true, true, true, true] rfl rfl (by kernel_rfl) (fun _ _ _ h => h) (Or.inl ⟨by rfl, ?_⟩) ?_ ?_
  rotate_left
  · intro w'
    have hq : (((num bs 156 : Nat) : Int) != ((rsum (bs.take 156) : Nat) : Int)) = false := by rw [H1.out]; simp
    go_simp
    with_reducible rfl
  rotate_left
  · simp only [Act.put, List.setIfInBounds_toArray, List.set_cons_zero, List.set_cons_succ, i64_w, i32_w]
    rfl
  refine done_ (by kernel_rfl) ?_
  have n0_ := Aside0.mk hHeld
  clear HB
  have HB := n0_
  clear n0_
  go_upto_region 5 with (fail)
  go_cut [4] (fun v4 wc => RefrAt bs W0 v4 wc)
  case first =>
    refine start_ (n := 21) (S := (fun w' => Below W0.heap.size W0 w')) (ds := [20]) #[false, false, false, false, false, false, false, false, false, false, false, false, false, false, false, false, false, false, false, false, false] (by kernel_rfl) rfl rfl (below_drew1 HB.out) (fun hHeld => ?_)
    refine pure_ (i := 0) (N := some 27) (v := ?_) (a' := ?_) #[true, false, false, false, false, false, false, false, false, false, false, false, false, false, false, false, false, false, false, false, false] rfl rfl (by kernel_rfl) (fun _ _ _ h => h) (Or.inl ⟨by rfl, ?_⟩) ?_ ?_
    rotate_left
    · intro w'
      go_simp
      with_reducible rfl
    rotate_left
    · simp only [Act.put, List.setIfInBounds_toArray, List.set_cons_zero, List.set_cons_succ, i64_w, i32_w]
      rfl
    refine pure_ (i := 1) (N := some 28) (v := ?_) (a' := ?_) #[true, true, false, false, false, false, false, false, false, false, false, false, false, false, false, false, false, false, false, false, false] rfl rfl (by kernel_rfl) (fun _ _ _ h => h) (Or.inl ⟨by rfl, ?_⟩) ?_ ?_
    rotate_left
    · intro w'
      go_simp
      with_reducible rfl
    rotate_left
    · simp only [Act.put, List.setIfInBounds_toArray, List.set_cons_zero, List.set_cons_succ, i64_w, i32_w]
      rfl
    refine pure_ (i := 3) (N := some 30) (v := ?_) (a' := ?_) #[true, true, false, true, false, false, false, false, false, false, false, false, false, false, false, false, false, false, false, false, false] rfl rfl (by kernel_rfl) (fun _ _ _ h => h) (Or.inl ⟨by rfl, ?_⟩) ?_ ?_
    rotate_left
    · intro w'
      go_simp
      with_reducible rfl
    rotate_left
    · simp only [Act.put, List.setIfInBounds_toArray, List.set_cons_zero, List.set_cons_succ, i64_w, i32_w]
      rfl
    refine pure_ (i := 4) (N := some 31) (v := ?_) (a' := ?_) #[true, true, false, true, true, false, false, false, false, false, false, false, false, false, false, false, false, false, false, false, false] rfl rfl (by kernel_rfl) (fun _ _ _ h => h) (Or.inl ⟨by rfl, ?_⟩) ?_ ?_
    rotate_left
    · intro w'
      go_simp
      with_reducible rfl
    rotate_left
    · simp only [Act.put, List.setIfInBounds_toArray, List.set_cons_zero, List.set_cons_succ, i64_w, i32_w]
      rfl
    refine pure_ (i := 6) (N := some 33) (v := ?_) (a' := ?_) #[true, true, false, true, true, false, true, false, false, false, false, false, false, false, false, false, false, false, false, false, false] rfl rfl (by kernel_rfl) (fun _ _ _ h => h) (Or.inl ⟨by rfl, ?_⟩) ?_ ?_
    rotate_left
    · intro w'
      go_simp
      with_reducible rfl
    rotate_left
    · simp only [Act.put, List.setIfInBounds_toArray, List.set_cons_zero, List.set_cons_succ, i64_w, i32_w]
      rfl
    refine pure_ (i := 7) (N := some 34) (v := ?_) (a' := ?_) #[true, true, false, true, true, false, true, true, false, false, false, false, false, false, false, false, false, false, false, false, false] rfl rfl (by kernel_rfl) (fun _ _ _ h => h) (Or.inl ⟨by rfl, ?_⟩) ?_ ?_
    rotate_left
    · intro w'
      go_simp
      with_reducible rfl
    rotate_left
    · simp only [Act.put, List.setIfInBounds_toArray, List.set_cons_zero, List.set_cons_succ, i64_w, i32_w]
      rfl
    refine pure_ (i := 9) (N := some 36) (v := ?_) (a' := ?_) #[true, true, false, true, true, false, true, true, false, true, false, false, false, false, false, false, false, false, false, false, false] rfl rfl (by kernel_rfl) (fun _ _ _ h => h) (Or.inl ⟨by rfl, ?_⟩) ?_ ?_
    rotate_left
    · intro w'
      go_simp
      with_reducible rfl
    rotate_left
    · simp only [Act.put, List.setIfInBounds_toArray, List.set_cons_zero, List.set_cons_succ, i64_w, i32_w]
      rfl
    refine pure_ (i := 10) (N := some 37) (v := ?_) (a' := ?_) #[true, true, false, true, true, false, true, true, false, true, true, false, false, false, false, false, false, false, false, false, false] rfl rfl (by kernel_rfl) (fun _ _ _ h => h) (Or.inl ⟨by rfl, ?_⟩) ?_ ?_
    rotate_left
    · intro w'
      go_simp
      with_reducible rfl
    rotate_left
    · simp only [Act.put, List.setIfInBounds_toArray, List.set_cons_zero, List.set_cons_succ, i64_w, i32_w]
      rfl
    refine pure_ (i := 12) (N := some 39) (v := ?_) (a' := ?_) #[true, true, false, true, true, false, true, true, false, true, true, false, true, false, false, false, false, false, false, false, false] rfl rfl (by kernel_rfl) (fun _ _ _ h => h) (Or.inl ⟨by rfl, ?_⟩) ?_ ?_
    rotate_left
    · intro w'
      go_simp
      with_reducible rfl
    rotate_left
    · simp only [Act.put, List.setIfInBounds_toArray, List.set_cons_zero, List.set_cons_succ, i64_w, i32_w]
      rfl
    refine pure_ (i := 13) (N := some 40) (v := ?_) (a' := ?_) #[true, true, false, true, true, false, true, true, false, true, true, false, true, true, false, false, false, false, false, false, false] rfl rfl (by kernel_rfl) (fun _ _ _ h => h) (Or.inl ⟨by rfl, ?_⟩) ?_ ?_
    rotate_left
    · intro w'
      go_simp
      with_reducible rfl
    rotate_left
    · simp only [Act.put, List.setIfInBounds_toArray, List.set_cons_zero, List.set_cons_succ, i64_w, i32_w]
      rfl
    refine pure_ (i := 15) (N := some 42) (v := ?_) (a' := ?_) #[true, true, false, true, true, false, true, true, false, true, true, false, true, true, false, true, false, false, false, false, false] rfl rfl (by kernel_rfl) (fun _ _ _ h => h) (Or.inl ⟨by rfl, ?_⟩) ?_ ?_
    rotate_left
    · intro w'
      go_simp
      with_reducible rfl
    rotate_left
    · simp only [Act.put, List.setIfInBounds_toArray, List.set_cons_zero, List.set_cons_succ, i64_w, i32_w]
      rfl
    refine pure_ (i := 16) (N := some 43) (v := ?_) (a' := ?_) #[true, true, false, true, true, false, true, true, false, true, true, false, true, true, false, true, true, false, false, false, false] rfl rfl (by kernel_rfl) (fun _ _ _ h => h) (Or.inl ⟨by rfl, ?_⟩) ?_ ?_
    rotate_left
    · intro w'
      go_simp
      with_reducible rfl
    rotate_left
    · simp only [Act.put, List.setIfInBounds_toArray, List.set_cons_zero, List.set_cons_succ, i64_w, i32_w]
      rfl
    refine take_ (i := 14) (N := some 41) (v := ?_) (a' := ?_) #[true, true, false, true, true, false, true, true, false, true, true, false, true, true, true, true, true, false, false, false, false] rfl rfl (by kernel_rfl) (fun _ _ _ h => h) (Or.inl ⟨by rfl, ?_⟩) hHeld ?_ ?_
    rotate_left
    · intro w' hw'
      have hx20 : w'.cell? ⟨g, 20, none⟩ = some (.int .u8 ((at_ bs 20 : Nat) : Int)) := byte_at (Kd.C_below HR0.out hw') HBY.out 20 (by decide) (by rw [HL.out]; decide)
      go_simp
      with_reducible rfl
    rotate_left
    · simp only [Act.put, List.setIfInBounds_toArray, List.set_cons_zero, List.set_cons_succ, i64_w, i32_w]
      rfl
    refine two_ (i := 2) (j := 19) (Ni := some 29) (Nj := some 4) #[true, true, true, true, true, false, true, true, false, true, true, false, true, true, true, true, true, false, false, false, false] #[true, true, false, true, true, false, true, true, false, true, true, false, true, true, true, true, true, false, false, true, false] rfl rfl rfl rfl (by kernel_rfl) (by decide) (by decide) (fun K hK => ?_) (fun K hK => ?_)
    · refine goes_ Try.func33 (by kernel_rfl) rfl #[.slice (some ⟨g, 4, none⟩) 4 (c - 4)] (by rfl) rfl rfl (by (try simp only [List.map_toArray, List.map_cons, List.map_nil]); first | done | rfl) ?_
      refine (ref_num_c g 4 4 (c - 4) bs 4 _ (by rw [HL.out]; exact Kd.C_below HR0.out hHeld) HBY.out rfl (by rw [HL.out]; decide) (by decide) (by decide)).mono ?_
      rintro e x1 ⟨rfl, hb⟩
      refine ⟨_, rfl, ?_⟩
      refine hK.out _ _ (below_then hHeld hHeld.size hb) (fun hHeld => ?_)
      clear hK K
      refine norm_ (a' := ?_) ?_ ?_
      rotate_left
      · show Act.put _ (some 29) _ = _
        simp only [Act.put, List.setIfInBounds_toArray, List.set_cons_zero, List.set_cons_succ, i64_w, i32_w]
        rfl
      refine two_ (i := 5) (j := 19) (Ni := some 32) (Nj := some 4) #[true, true, true, true, true, true, true, true, false, true, true, false, true, true, true, true, true, false, false, false, false] #[true, true, true, true, true, false, true, true, false, true, true, false, true, true, true, true, true, false, false, true, false] rfl rfl rfl rfl (by kernel_rfl) (by decide) (by decide) (fun K hK => ?_) (fun K hK => ?_)
      · refine goes_ Try.func33 (by kernel_rfl) rfl #[.slice (some ⟨g, 8, none⟩) 4 (c - 8)] (by rfl) rfl rfl (by (try simp only [List.map_toArray, List.map_cons, List.map_nil]); first | done | rfl) ?_
        refine (ref_num_c g 8 4 (c - 8) bs 8 _ (by rw [HL.out]; exact Kd.C_below HR0.out hHeld) HBY.out rfl (by rw [HL.out]; decide) (by decide) (by decide)).mono ?_
        rintro e x2 ⟨rfl, hb⟩
        refine ⟨_, rfl, ?_⟩
        refine hK.out _ _ (below_then hHeld hHeld.size hb) (fun hHeld => ?_)
        clear hK K
        refine norm_ (a' := ?_) ?_ ?_
        rotate_left
        · show Act.put _ (some 32) _ = _
          simp only [Act.put, List.setIfInBounds_toArray, List.set_cons_zero, List.set_cons_succ, i64_w, i32_w]
          rfl
        refine two_ (i := 8) (j := 19) (Ni := some 35) (Nj := some 4) #[true, true, true, true, true, true, true, true, true, true, true, false, true, true, true, true, true, false, false, false, false] #[true, true, true, true, true, true, true, true, false, true, true, false, true, true, true, true, true, false, false, true, false] rfl rfl rfl rfl (by kernel_rfl) (by decide) (by decide) (fun K hK => ?_) (fun K hK => ?_)
        · refine goes_ Try.func33 (by kernel_rfl) rfl #[.slice (some ⟨g, 12, none⟩) 4 (c - 12)] (by rfl) rfl rfl (by (try simp only [List.map_toArray, List.map_cons, List.map_nil]); first | done | rfl) ?_
          refine (ref_num_c g 12 4 (c - 12) bs 12 _ (by rw [HL.out]; exact Kd.C_below HR0.out hHeld) HBY.out rfl (by rw [HL.out]; decide) (by decide) (by decide)).mono ?_
          rintro e x3 ⟨rfl, hb⟩
          refine ⟨_, rfl, ?_⟩
          refine hK.out _ _ (below_then hHeld hHeld.size hb) (fun hHeld => ?_)
          clear hK K
          refine norm_ (a' := ?_) ?_ ?_
          rotate_left
          · show Act.put _ (some 35) _ = _
            simp only [Act.put, List.setIfInBounds_toArray, List.set_cons_zero, List.set_cons_succ, i64_w, i32_w]
            rfl
          refine two_ (i := 11) (j := 19) (Ni := some 38) (Nj := some 4) #[true, true, true, true, true, true, true, true, true, true, true, true, true, true, true, true, true, false, false, false, false] #[true, true, true, true, true, true, true, true, true, true, true, false, true, true, true, true, true, false, false, true, false] rfl rfl rfl rfl (by kernel_rfl) (by decide) (by decide) (fun K hK => ?_) (fun K hK => ?_)
          · refine goes_ Try.func33 (by kernel_rfl) rfl #[.slice (some ⟨g, 16, none⟩) 4 (c - 16)] (by rfl) rfl rfl (by (try simp only [List.map_toArray, List.map_cons, List.map_nil]); first | done | rfl) ?_
            refine (ref_num_c g 16 4 (c - 16) bs 16 _ (by rw [HL.out]; exact Kd.C_below HR0.out hHeld) HBY.out rfl (by rw [HL.out]; decide) (by decide) (by decide)).mono ?_
            rintro e x4 ⟨rfl, hb⟩
            refine ⟨_, rfl, ?_⟩
            refine hK.out _ _ (below_then hHeld hHeld.size hb) (fun hHeld => ?_)
            clear hK K
            refine norm_ (a' := ?_) ?_ ?_
            rotate_left
            · show Act.put _ (some 38) _ = _
              simp only [Act.put, List.setIfInBounds_toArray, List.set_cons_zero, List.set_cons_succ, i64_w, i32_w]
              rfl
            refine two_ (i := 17) (j := 19) (Ni := some 44) (Nj := some 4) #[true, true, true, true, true, true, true, true, true, true, true, true, true, true, true, true, true, true, false, false, false] #[true, true, true, true, true, true, true, true, true, true, true, true, true, true, true, true, true, false, false, true, false] rfl rfl rfl rfl (by kernel_rfl) (by decide) (by decide) (fun K hK => ?_) (fun K hK => ?_)
            · refine goes_ Try.func33 (by kernel_rfl) rfl #[.slice (some ⟨g, 24, none⟩) 4 (c - 24)] (by rfl) rfl rfl (by (try simp only [List.map_toArray, List.map_cons, List.map_nil]); first | done | rfl) ?_
              refine (ref_num_c g 24 4 (c - 24) bs 24 _ (by rw [HL.out]; exact Kd.C_below HR0.out hHeld) HBY.out rfl (by rw [HL.out]; decide) (by decide) (by decide)).mono ?_
              rintro e x5 ⟨rfl, hb⟩
              refine ⟨_, rfl, ?_⟩
              refine hK.out _ _ (below_then hHeld hHeld.size hb) (fun hHeld => ?_)
              clear hK K
              refine norm_ (a' := ?_) ?_ ?_
              rotate_left
              · show Act.put _ (some 44) _ = _
                simp only [Act.put, List.setIfInBounds_toArray, List.set_cons_zero, List.set_cons_succ, i64_w, i32_w]
                rfl
              refine pure_ (i := 18) (N := some 45) (v := ?_) (a' := ?_) #[true, true, true, true, true, true, true, true, true, true, true, true, true, true, true, true, true, true, true, false, false] rfl rfl (by kernel_rfl) (fun _ _ _ h => h) (Or.inl ⟨by rfl, ?_⟩) ?_ ?_
              rotate_left
              · intro w'
                go_simp
                with_reducible rfl
              rotate_left
              · simp only [Act.put, List.setIfInBounds_toArray, List.set_cons_zero, List.set_cons_succ, i64_w, i32_w]
                rfl
              refine one_ (i := 19) (N := some 4) #[true, true, true, true, true, true, true, true, true, true, true, true, true, true, true, true, true, true, true, true, false] rfl rfl (by kernel_rfl) (by decide) (fun K hK => ?_)
              refine value_ (by rfl) rfl (event_alloc44 rfl) ?_
              have HP := Aside0.mk (heap_alloc_new x5 (.cells zero44 44))
              have HPL := Aside0.mk hHeld.size
              refine hK.out _ _ (below_alloc hHeld _) (fun hHeld => ?_)
              clear hK K
              refine norm_ (a' := ?_) ?_ ?_
              rotate_left
              · show Act.put _ (some 4) _ = _
                simp only [Act.put, List.setIfInBounds_toArray, List.set_cons_zero, List.set_cons_succ, i64_w, i32_w]
                rfl
              refine last_ (i := 20) (N := none) #[true, true, true, true, true, true, true, true, true, true, true, true, true, true, true, true, true, true, true, true, true] rfl rfl (by kernel_rfl) (by decide) (fun K hK => ?_)
              rw [if_pos (by rfl)]
              refine wp_store_row 44 (.tmp 4) (.tmp 45) rfl _ (recr (num bs 4) (num bs 8) (num bs 12) (num bs 16) (at_ bs 20) (num bs 24) (.slice none 0 0)) rfl rfl 44 zero44 HP.out (by kernel_rfl) rfl (recr_one _ _ _ _ _ _ _ _ _) ?_
              refine hK.out _ _ ?_
              clear hK K
              refine norm_ (a' := ?_) ?_ ?_
              rotate_left
              · show Act.put _ none _ = _
                simp only [Act.put]
                rfl
              refine done_ (by kernel_rfl) ?_
              go_wp2
              go_meet
              case rel => exact ⟨_, rfl, setRow_heap _ _ _ _ _ _ HP.out, HPL.out, below_setRow hHeld HPL.out _⟩
            · refine value_ (by rfl) rfl (event_alloc44 rfl) ?_
              have HP := Aside0.mk (heap_alloc_new x4 (.cells zero44 44))
              have HPL := Aside0.mk hHeld.size
              refine hK.out _ _ (below_alloc hHeld _) (fun hHeld => ?_)
              clear hK K
              refine norm_ (a' := ?_) ?_ ?_
              rotate_left
              · show Act.put _ (some 4) _ = _
                simp only [Act.put, List.setIfInBounds_toArray, List.set_cons_zero, List.set_cons_succ, i64_w, i32_w]
                rfl
              refine one_ (i := 17) (N := some 44) #[true, true, true, true, true, true, true, true, true, true, true, true, true, true, true, true, true, true, false, true, false] rfl rfl (by kernel_rfl) (by decide) (fun K hK => ?_)
              refine goes_ Try.func33 (by kernel_rfl) rfl #[.slice (some ⟨g, 24, none⟩) 4 (c - 24)] (by rfl) rfl rfl (by (try simp only [List.map_toArray, List.map_cons, List.map_nil]); first | done | rfl) ?_
              refine (ref_num_c g 24 4 (c - 24) bs 24 _ (by rw [HL.out]; exact Kd.C_below HR0.out hHeld) HBY.out rfl (by rw [HL.out]; decide) (by decide) (by decide)).mono ?_
              rintro e x6 ⟨rfl, hb⟩
              refine ⟨_, rfl, ?_⟩
              have HP2 := Aside0.mk ((hb.block _ (blk_lt HP.out)).trans HP.out)
              clear HP
              have HP := HP2
              clear HP2
              refine hK.out _ _ (below_then hHeld hHeld.size hb) (fun hHeld => ?_)
              clear hK K
              refine norm_ (a' := ?_) ?_ ?_
              rotate_left
              · show Act.put _ (some 44) _ = _
                simp only [Act.put, List.setIfInBounds_toArray, List.set_cons_zero, List.set_cons_succ, i64_w, i32_w]
                rfl
              refine pure_ (i := 18) (N := some 45) (v := ?_) (a' := ?_) #[true, true, true, true, true, true, true, true, true, true, true, true, true, true, true, true, true, true, true, true, false] rfl rfl (by kernel_rfl) (fun _ _ _ h => h) (Or.inl ⟨by rfl, ?_⟩) ?_ ?_
              rotate_left
              · intro w'
                go_simp
                with_reducible rfl
              rotate_left
              · simp only [Act.put, List.setIfInBounds_toArray, List.set_cons_zero, List.set_cons_succ, i64_w, i32_w]
                rfl
              refine last_ (i := 20) (N := none) #[true, true, true, true, true, true, true, true, true, true, true, true, true, true, true, true, true, true, true, true, true] rfl rfl (by kernel_rfl) (by decide) (fun K hK => ?_)
              rw [if_pos (by rfl)]
              refine wp_store_row 44 (.tmp 4) (.tmp 45) rfl _ (recr (num bs 4) (num bs 8) (num bs 12) (num bs 16) (at_ bs 20) (num bs 24) (.slice none 0 0)) rfl rfl 44 zero44 HP.out (by kernel_rfl) rfl (recr_one _ _ _ _ _ _ _ _ _) ?_
              refine hK.out _ _ ?_
              clear hK K
              refine norm_ (a' := ?_) ?_ ?_
              rotate_left
              · show Act.put _ none _ = _
                simp only [Act.put]
                rfl
              refine done_ (by kernel_rfl) ?_
              go_wp2
              go_meet
              case rel => exact ⟨_, rfl, setRow_heap _ _ _ _ _ _ HP.out, HPL.out, below_setRow hHeld HPL.out _⟩
          · refine value_ (by rfl) rfl (event_alloc44 rfl) ?_
            have HP := Aside0.mk (heap_alloc_new x3 (.cells zero44 44))
            have HPL := Aside0.mk hHeld.size
            refine hK.out _ _ (below_alloc hHeld _) (fun hHeld => ?_)
            clear hK K
            refine norm_ (a' := ?_) ?_ ?_
            rotate_left
            · show Act.put _ (some 4) _ = _
              simp only [Act.put, List.setIfInBounds_toArray, List.set_cons_zero, List.set_cons_succ, i64_w, i32_w]
              rfl
            refine one_ (i := 11) (N := some 38) #[true, true, true, true, true, true, true, true, true, true, true, true, true, true, true, true, true, false, false, true, false] rfl rfl (by kernel_rfl) (by decide) (fun K hK => ?_)
            refine goes_ Try.func33 (by kernel_rfl) rfl #[.slice (some ⟨g, 16, none⟩) 4 (c - 16)] (by rfl) rfl rfl (by (try simp only [List.map_toArray, List.map_cons, List.map_nil]); first | done | rfl) ?_
            refine (ref_num_c g 16 4 (c - 16) bs 16 _ (by rw [HL.out]; exact Kd.C_below HR0.out hHeld) HBY.out rfl (by rw [HL.out]; decide) (by decide) (by decide)).mono ?_
            rintro e x7 ⟨rfl, hb⟩
            refine ⟨_, rfl, ?_⟩
            have HP2 := Aside0.mk ((hb.block _ (blk_lt HP.out)).trans HP.out)
            clear HP
            have HP := HP2
            clear HP2
            refine hK.out _ _ (below_then hHeld hHeld.size hb) (fun hHeld => ?_)
            clear hK K
            refine norm_ (a' := ?_) ?_ ?_
            rotate_left
            · show Act.put _ (some 38) _ = _
              simp only [Act.put, List.setIfInBounds_toArray, List.set_cons_zero, List.set_cons_succ, i64_w, i32_w]
              rfl
            refine one_ (i := 17) (N := some 44) #[true, true, true, true, true, true, true, true, true, true, true, true, true, true, true, true, true, true, false, true, false] rfl rfl (by kernel_rfl) (by decide) (fun K hK => ?_)
            refine goes_ Try.func33 (by kernel_rfl) rfl #[.slice (some ⟨g, 24, none⟩) 4 (c - 24)] (by rfl) rfl rfl (by (try simp only [List.map_toArray, List.map_cons, List.map_nil]); first | done | rfl) ?_
            refine (ref_num_c g 24 4 (c - 24) bs 24 _ (by rw [HL.out]; exact Kd.C_below HR0.out hHeld) HBY.out rfl (by rw [HL.out]; decide) (by decide) (by decide)).mono ?_
            rintro e x8 ⟨rfl, hb⟩
            refine ⟨_, rfl, ?_⟩
            have HP2 := Aside0.mk ((hb.block _ (blk_lt HP.out)).trans HP.out)
            clear HP
            have HP := HP2
            clear HP2
            refine hK.out _ _ (below_then hHeld hHeld.size hb) (fun hHeld => ?_)
            clear hK K
            refine norm_ (a' := ?_) ?_ ?_
            rotate_left
            · show Act.put _ (some 44) _ = _
              simp only [Act.put, List.setIfInBounds_toArray, List.set_cons_zero, List.set_cons_succ, i64_w, i32_w]
              rfl
            refine pure_ (i := 18) (N := some 45) (v := ?_) (a' := ?_) #[true, true, true, true, true, true, true, true, true, true, true, true, true, true, true, true, true, true, true, true, false] rfl rfl (by kernel_rfl) (fun _ _ _ h => h) (Or.inl ⟨by rfl, ?_⟩) ?_ ?_
            rotate_left
            · intro w'
              go_simp
              with_reducible rfl
            rotate_left
            · simp only [Act.put, List.setIfInBounds_toArray, List.set_cons_zero, List.set_cons_succ, i64_w, i32_w]
              rfl
            refine last_ (i := 20) (N := none) #[true, true, true, true, true, true, true, true, true, true, true, true, true, true, true, true, true, true, true, true, true] rfl rfl (by kernel_rfl) (by decide) (fun K hK => ?_)
            rw [if_pos (by rfl)]
            refine wp_store_row 44 (.tmp 4) (.tmp 45) rfl _ (recr (num bs 4) (num bs 8) (num bs 12) (num bs 16) (at_ bs 20) (num bs 24) (.slice none 0 0)) rfl rfl 44 zero44 HP.out (by kernel_rfl) rfl (recr_one _ _ _ _ _ _ _ _ _) ?_
            refine hK.out _ _ ?_
            clear hK K
            refine norm_ (a' := ?_) ?_ ?_
            rotate_left
            · show Act.put _ none _ = _
              simp only [Act.put]
              rfl
            refine done_ (by kernel_rfl) ?_
            go_wp2
            go_meet
            case rel => exact ⟨_, rfl, setRow_heap _ _ _ _ _ _ HP.out, HPL.out, below_setRow hHeld HPL.out _⟩
        · refine value_ (by rfl) rfl (event_alloc44 rfl) ?_
          have HP := Aside0.mk (heap_alloc_new x2 (.cells zero44 44))
          have HPL := Aside0.mk hHeld.size
          refine hK.out _ _ (below_alloc hHeld _) (fun hHeld => ?_)
          clear hK K
          refine norm_ (a' := ?_) ?_ ?_
          rotate_left
          · show Act.put _ (some 4) _ = _
            simp only [Act.put, List.setIfInBounds_toArray, List.set_cons_zero, List.set_cons_succ, i64_w, i32_w]
            rfl
          refine one_ (i := 8) (N := some 35) #[true, true, true, true, true, true, true, true, true, true, true, false, true, true, true, true, true, false, false, true, false] rfl rfl (by kernel_rfl) (by decide) (fun K hK => ?_)
          refine goes_ Try.func33 (by kernel_rfl) rfl #[.slice (some ⟨g, 12, none⟩) 4 (c - 12)] (by rfl) rfl rfl (by (try simp only [List.map_toArray, List.map_cons, List.map_nil]); first | done | rfl) ?_
          refine (ref_num_c g 12 4 (c - 12) bs 12 _ (by rw [HL.out]; exact Kd.C_below HR0.out hHeld) HBY.out rfl (by rw [HL.out]; decide) (by decide) (by decide)).mono ?_
          rintro e x9 ⟨rfl, hb⟩
          refine ⟨_, rfl, ?_⟩
          have HP2 := Aside0.mk ((hb.block _ (blk_lt HP.out)).trans HP.out)
          clear HP
          have HP := HP2
          clear HP2
          refine hK.out _ _ (below_then hHeld hHeld.size hb) (fun hHeld => ?_)
          clear hK K
          refine norm_ (a' := ?_) ?_ ?_
          rotate_left
          · show Act.put _ (some 35) _ = _
            simp only [Act.put, List.setIfInBounds_toArray, List.set_cons_zero, List.set_cons_succ, i64_w, i32_w]
            rfl
          refine one_ (i := 11) (N := some 38) #[true, true, true, true, true, true, true, true, true, true, true, true, true, true, true, true, true, false, false, true, false] rfl rfl (by kernel_rfl) (by decide) (fun K hK => ?_)
          refine goes_ Try.func33 (by kernel_rfl) rfl #[.slice (some ⟨g, 16, none⟩) 4 (c - 16)] (by rfl) rfl rfl (by (try simp only [List.map_toArray, List.map_cons, List.map_nil]); first | done | rfl) ?_
          refine (ref_num_c g 16 4 (c - 16) bs 16 _ (by rw [HL.out]; exact Kd.C_below HR0.out hHeld) HBY.out rfl (by rw [HL.out]; decide) (by decide) (by decide)).mono ?_
          rintro e x10 ⟨rfl, hb⟩
          refine ⟨_, rfl, ?_⟩
          have HP2 := Aside0.mk ((hb.block _ (blk_lt HP.out)).trans HP.out)
          clear HP
          have HP := HP2
          clear HP2
          refine hK.out _ _ (below_then hHeld hHeld.size hb) (fun hHeld => ?_)
          clear hK K
          refine norm_ (a' := ?_) ?_ ?_
          rotate_left
          · show Act.put _ (some 38) _ = _
            simp only [Act.put, List.setIfInBounds_toArray, List.set_cons_zero, List.set_cons_succ, i64_w, i32_w]
            rfl
          refine one_ (i := 17) (N := some 44) #[true, true, true, true, true, true, true, true, true, true, true, true, true, true, true, true, true, true, false, true, false] rfl rfl (by kernel_rfl) (by decide) (fun K hK => ?_)
          refine goes_ Try.func33 (by kernel_rfl) rfl #[.slice (some ⟨g, 24, none⟩) 4 (c - 24)] (by rfl) rfl rfl (by (try simp only [List.map_toArray, List.map_cons, List.map_nil]); first | done | rfl) ?_
          refine (ref_num_c g 24 4 (c - 24) bs 24 _ (by rw [HL.out]; exact Kd.C_below HR0.out hHeld) HBY.out rfl (by rw [HL.out]; decide) (by decide) (by decide)).mono ?_
          rintro e x11 ⟨rfl, hb⟩
          refine ⟨_, rfl, ?_⟩
          have HP2 := Aside0.mk ((hb.block _ (blk_lt HP.out)).trans HP.out)
          clear HP
          have HP := HP2
          clear HP2
          refine hK.out _ _ (below_then hHeld hHeld.size hb) (fun hHeld => ?_)
          clear hK K
          refine norm_ (a' := ?_) ?_ ?_
          rotate_left
          · show Act.put _ (some 44) _ = _
            simp only [Act.put, List.setIfInBounds_toArray, List.set_cons_zero, List.set_cons_succ, i64_w, i32_w]
            rfl
          refine pure_ (i := 18) (N := some 45) (v := ?_) (a' := ?_) #[true, true, true, true, true, true, true, true, true, true, true, true, true, true, true, true, true, true, true, true, false] rfl rfl (by kernel_rfl) (fun _ _ _ h => h) (Or.inl ⟨by rfl, ?_⟩) ?_ ?_
          rotate_left
          · intro w'
            go_simp
            with_reducible rfl
          rotate_left
          · simp only [Act.put, List.setIfInBounds_toArray, List.set_cons_zero, List.set_cons_succ, i64_w, i32_w]
            rfl
          refine last_ (i := 20) (N := none) #[true, true, true, true, true, true, true, true, true, true, true, true, true, true, true, true, true, true, true, true, true] rfl rfl (by kernel_rfl) (by decide) (fun K hK => ?_)
          rw [if_pos (by rfl)]
          refine wp_store_row 44 (.tmp 4) (.tmp 45) rfl _ (recr (num bs 4) (num bs 8) (num bs 12) (num bs 16) (at_ bs 20) (num bs 24) (.slice none 0 0)) rfl rfl 44 zero44 HP.out (by kernel_rfl) rfl (recr_one _ _ _ _ _ _ _ _ _) ?_
          refine hK.out _ _ ?_
          clear hK K
          refine norm_ (a' := ?_) ?_ ?_
          rotate_left
          · show Act.put _ none _ = _
            simp only [Act.put]
            rfl
          refine done_ (by kernel_rfl) ?_
          go_wp2
          go_meet
          case rel => exact ⟨_, rfl, setRow_heap _ _ _ _ _ _ HP.out, HPL.out, below_setRow hHeld HPL.out _⟩
      · refine value_ (by rfl) rfl (event_alloc44 rfl) ?_
        have HP := Aside0.mk (heap_alloc_new x1 (.cells zero44 44))
        have HPL := Aside0.mk hHeld.size
        refine hK.out _ _ (below_alloc hHeld _) (fun hHeld => ?_)
        clear hK K
        refine norm_ (a' := ?_) ?_ ?_
        rotate_left
        · show Act.put _ (some 4) _ = _
          simp only [Act.put, List.setIfInBounds_toArray, List.set_cons_zero, List.set_cons_succ, i64_w, i32_w]
          rfl
        refine one_ (i := 5) (N := some 32) #[true, true, true, true, true, true, true, true, false, true, true, false, true, true, true, true, true, false, false, true, false] rfl rfl (by kernel_rfl) (by decide) (fun K hK => ?_)
        refine goes_ Try.func33 (by kernel_rfl) rfl #[.slice (some ⟨g, 8, none⟩) 4 (c - 8)] (by rfl) rfl rfl (by (try simp only [List.map_toArray, List.map_cons, List.map_nil]); first | done | rfl) ?_
        refine (ref_num_c g 8 4 (c - 8) bs 8 _ (by rw [HL.out]; exact Kd.C_below HR0.out hHeld) HBY.out rfl (by rw [HL.out]; decide) (by decide) (by decide)).mono ?_
        rintro e x12 ⟨rfl, hb⟩
        refine ⟨_, rfl, ?_⟩
        have HP2 := Aside0.mk ((hb.block _ (blk_lt HP.out)).trans HP.out)
        clear HP
        have HP := HP2
        clear HP2
        refine hK.out _ _ (below_then hHeld hHeld.size hb) (fun hHeld => ?_)
        clear hK K
        refine norm_ (a' := ?_) ?_ ?_
        rotate_left
        · show Act.put _ (some 32) _ = _
          simp only [Act.put, List.setIfInBounds_toArray, List.set_cons_zero, List.set_cons_succ, i64_w, i32_w]
          rfl
        refine one_ (i := 8) (N := some 35) #[true, true, true, true, true, true, true, true, true, true, true, false, true, true, true, true, true, false, false, true, false] rfl rfl (by kernel_rfl) (by decide) (fun K hK => ?_)
        refine goes_ Try.func33 (by kernel_rfl) rfl #[.slice (some ⟨g, 12, none⟩) 4 (c - 12)] (by rfl) rfl rfl (by (try simp only [List.map_toArray, List.map_cons, List.map_nil]); first | done | rfl) ?_
        refine (ref_num_c g 12 4 (c - 12) bs 12 _ (by rw [HL.out]; exact Kd.C_below HR0.out hHeld) HBY.out rfl (by rw [HL.out]; decide) (by decide) (by decide)).mono ?_
        rintro e x13 ⟨rfl, hb⟩
        refine ⟨_, rfl, ?_⟩
        have HP2 := Aside0.mk ((hb.block _ (blk_lt HP.out)).trans HP.out)
        clear HP
        have HP := HP2
        clear HP2
        refine hK.out _ _ (below_then hHeld hHeld.size hb) (fun hHeld => ?_)
        clear hK K
        refine norm_ (a' := ?_) ?_ ?_
        rotate_left
        · show Act.put _ (some 35) _ = _
          simp only [Act.put, List.setIfInBounds_toArray, List.set_cons_zero, List.set_cons_succ, i64_w, i32_w]
          rfl
        refine one_ (i := 11) (N := some 38) #[true, true, true, true, true, true, true, true, true, true, true, true, true, true, true, true, true, false, false, true, false] rfl rfl (by kernel_rfl) (by decide) (fun K hK => ?_)
        refine goes_ Try.func33 (by kernel_rfl) rfl #[.slice (some ⟨g, 16, none⟩) 4 (c - 16)] (by rfl) rfl rfl (by (try simp only [List.map_toArray, List.map_cons, List.map_nil]); first | done | rfl) ?_
        refine (ref_num_c g 16 4 (c - 16) bs 16 _ (by rw [HL.out]; exact Kd.C_below HR0.out hHeld) HBY.out rfl (by rw [HL.out]; decide) (by decide) (by decide)).mono ?_
        rintro e x14 ⟨rfl, hb⟩
        refine ⟨_, rfl, ?_⟩
        have HP2 := Aside0.mk ((hb.block _ (blk_lt HP.out)).trans HP.out)
        clear HP
        have HP := HP2
        clear HP2
        refine hK.out _ _ (below_then hHeld hHeld.size hb) (fun hHeld => ?_)
        clear hK K
        refine norm_ (a' := ?_) ?_ ?_
        rotate_left
        · show Act.put _ (some 38) _ = _
          simp only [Act.put, List.setIfInBounds_toArray, List.set_cons_zero, List.set_cons_succ, i64_w, i32_w]
          rfl
        refine one_ (i := 17) (N := some 44) #[true, true, true, true, true, true, true, true, true, true, true, true, true, true, true, true, true, true, false, true, false] rfl rfl (by kernel_rfl) (by decide) (fun K hK => ?_)
        refine goes_ Try.func33 (by kernel_rfl) rfl #[.slice (some ⟨g, 24, none⟩) 4 (c - 24)] (by rfl) rfl rfl (by (try simp only [List.map_toArray, List.map_cons, List.map_nil]); first | done | rfl) ?_
        refine (ref_num_c g 24 4 (c - 24) bs 24 _ (by rw [HL.out]; exact Kd.C_below HR0.out hHeld) HBY.out rfl (by rw [HL.out]; decide) (by decide) (by decide)).mono ?_
        rintro e x15 ⟨rfl, hb⟩
        refine ⟨_, rfl, ?_⟩
        have HP2 := Aside0.mk ((hb.block _ (blk_lt HP.out)).trans HP.out)
        clear HP
        have HP := HP2
        clear HP2
        refine hK.out _ _ (below_then hHeld hHeld.size hb) (fun hHeld => ?_)
        clear hK K
        refine norm_ (a' := ?_) ?_ ?_
        rotate_left
        · show Act.put _ (some 44) _ = _
          simp only [Act.put, List.setIfInBounds_toArray, List.set_cons_zero, List.set_cons_succ, i64_w, i32_w]
          rfl
        refine pure_ (i := 18) (N := some 45) (v := ?_) (a' := ?_) #[true, true, true, true, true, true, true, true, true, true, true, true, true, true, true, true, true, true, true, true, false] rfl rfl (by kernel_rfl) (fun _ _ _ h => h) (Or.inl ⟨by rfl, ?_⟩) ?_ ?_
        rotate_left
        · intro w'
          go_simp
          with_reducible rfl
        rotate_left
        · simp only [Act.put, List.setIfInBounds_toArray, List.set_cons_zero, List.set_cons_succ, i64_w, i32_w]
          rfl
        refine last_ (i := 20) (N := none) #[true, true, true, true, true, true, true, true, true, true, true, true, true, true, true, true, true, true, true, true, true] rfl rfl (by kernel_rfl) (by decide) (fun K hK => ?_)
        rw [if_pos (by rfl)]
        refine wp_store_row 44 (.tmp 4) (.tmp 45) rfl _ (recr (num bs 4) (num bs 8) (num bs 12) (num bs 16) (at_ bs 20) (num bs 24) (.slice none 0 0)) rfl rfl 44 zero44 HP.out (by kernel_rfl) rfl (recr_one _ _ _ _ _ _ _ _ _) ?_
        refine hK.out _ _ ?_
        clear hK K
        refine norm_ (a' := ?_) ?_ ?_
        rotate_left
        · show Act.put _ none _ = _
          simp only [Act.put]
          rfl
        refine done_ (by kernel_rfl) ?_
        go_wp2
        go_meet
        case rel => exact ⟨_, rfl, setRow_heap _ _ _ _ _ _ HP.out, HPL.out, below_setRow hHeld HPL.out _⟩
    · refine value_ (by rfl) rfl (event_alloc44 rfl) ?_
      have HP := Aside0.mk (heap_alloc_new w3.drew (.cells zero44 44))
      have HPL := Aside0.mk hHeld.size
      refine hK.out _ _ (below_alloc hHeld _) (fun hHeld => ?_)
      clear hK K
      refine norm_ (a' := ?_) ?_ ?_
      rotate_left
      · show Act.put _ (some 4) _ = _
        simp only [Act.put, List.setIfInBounds_toArray, List.set_cons_zero, List.set_cons_succ, i64_w, i32_w]
        rfl
      refine one_ (i := 2) (N := some 29) #[true, true, true, true, true, false, true, true, false, true, true, false, true, true, true, true, true, false, false, true, false] rfl rfl (by kernel_rfl) (by decide) (fun K hK => ?_)
      refine goes_ Try.func33 (by kernel_rfl) rfl #[.slice (some ⟨g, 4, none⟩) 4 (c - 4)] (by rfl) rfl rfl (by (try simp only [List.map_toArray, List.map_cons, List.map_nil]); first | done | rfl) ?_
      refine (ref_num_c g 4 4 (c - 4) bs 4 _ (by rw [HL.out]; exact Kd.C_below HR0.out hHeld) HBY.out rfl (by rw [HL.out]; decide) (by decide) (by decide)).mono ?_
      rintro e x16 ⟨rfl, hb⟩
      refine ⟨_, rfl, ?_⟩
      have HP2 := Aside0.mk ((hb.block _ (blk_lt HP.out)).trans HP.out)
      clear HP
      have HP := HP2
      clear HP2
      refine hK.out _ _ (below_then hHeld hHeld.size hb) (fun hHeld => ?_)
      clear hK K
      refine norm_ (a' := ?_) ?_ ?_
      rotate_left
      · show Act.put _ (some 29) _ = _
        simp only [Act.put, List.setIfInBounds_toArray, List.set_cons_zero, List.set_cons_succ, i64_w, i32_w]
        rfl
      refine one_ (i := 5) (N := some 32) #[true, true, true, true, true, true, true, true, false, true, true, false, true, true, true, true, true, false, false, true, false] rfl rfl (by kernel_rfl) (by decide) (fun K hK => ?_)
      refine goes_ Try.func33 (by kernel_rfl) rfl #[.slice (some ⟨g, 8, none⟩) 4 (c - 8)] (by rfl) rfl rfl (by (try simp only [List.map_toArray, List.map_cons, List.map_nil]); first | done | rfl) ?_
      refine (ref_num_c g 8 4 (c - 8) bs 8 _ (by rw [HL.out]; exact Kd.C_below HR0.out hHeld) HBY.out rfl (by rw [HL.out]; decide) (by decide) (by decide)).mono ?_
      rintro e x17 ⟨rfl, hb⟩
      refine ⟨_, rfl, ?_⟩
      have HP2 := Aside0.mk ((hb.block _ (blk_lt HP.out)).trans HP.out)
      clear HP
      have HP := HP2
      clear HP2
      refine hK.out _ _ (below_then hHeld hHeld.size hb) (fun hHeld => ?_)
      clear hK K
      refine norm_ (a' := ?_) ?_ ?_
      rotate_left
      · show Act.put _ (some 32) _ = _
        simp only [Act.put, List.setIfInBounds_toArray, List.set_cons_zero, List.set_cons_succ, i64_w, i32_w]
        rfl
      refine one_ (i := 8) (N := some 35) #[true, true, true, true, true, true, true, true, true, true, true, false, true, true, true, true, true, false, false, true, false] rfl rfl (by kernel_rfl) (by decide) (fun K hK => ?_)
      refine goes_ Try.func33 (by kernel_rfl) rfl #[.slice (some ⟨g, 12, none⟩) 4 (c - 12)] (by rfl) rfl rfl (by (try simp only [List.map_toArray, List.map_cons, List.map_nil]); first | done | rfl) ?_
      refine (ref_num_c g 12 4 (c - 12) bs 12 _ (by rw [HL.out]; exact Kd.C_below HR0.out hHeld) HBY.out rfl (by rw [HL.out]; decide) (by decide) (by decide)).mono ?_
      rintro e x18 ⟨rfl, hb⟩
      refine ⟨_, rfl, ?_⟩
      have HP2 := Aside0.mk ((hb.block _ (blk_lt HP.out)).trans HP.out)
      clear HP
      have HP := HP2
      clear HP2
      refine hK.out _ _ (below_then hHeld hHeld.size hb) (fun hHeld => ?_)
      clear hK K
      refine norm_ (a' := ?_) ?_ ?_
      rotate_left
      · show Act.put _ (some 35) _ = _
        simp only [Act.put, List.setIfInBounds_toArray, List.set_cons_zero, List.set_cons_succ, i64_w, i32_w]
        rfl
      refine one_ (i := 11) (N := some 38) #[true, true, true, true, true, true, true, true, true, true, true, true, true, true, true, true, true, false, false, true, false] rfl rfl (by kernel_rfl) (by decide) (fun K hK => ?_)
      refine goes_ Try.func33 (by kernel_rfl) rfl #[.slice (some ⟨g, 16, none⟩) 4 (c - 16)] (by rfl) rfl rfl (by (try simp only [List.map_toArray, List.map_cons, List.map_nil]); first | done | rfl) ?_
      refine (ref_num_c g 16 4 (c - 16) bs 16 _ (by rw [HL.out]; exact Kd.C_below HR0.out hHeld) HBY.out rfl (by rw [HL.out]; decide) (by decide) (by decide)).mono ?_
      rintro e x19 ⟨rfl, hb⟩
      refine ⟨_, rfl, ?_⟩
      have HP2 := Aside0.mk ((hb.block _ (blk_lt HP.out)).trans HP.out)
      clear HP
      have HP := HP2
      clear HP2
      refine hK.out _ _ (below_then hHeld hHeld.size hb) (fun hHeld => ?_)
      clear hK K
      refine norm_ (a' := ?_) ?_ ?_
      rotate_left
      · show Act.put _ (some 38) _ = _
        simp only [Act.put, List.setIfInBounds_toArray, List.set_cons_zero, List.set_cons_succ, i64_w, i32_w]
        rfl
      refine one_ (i := 17) (N := some 44) #[true, true, true, true, true, true, true, true, true, true, true, true, true, true, true, true, true, true, false, true, false] rfl rfl (by kernel_rfl) (by decide) (fun K hK => ?_)
      refine goes_ Try.func33 (by kernel_rfl) rfl #[.slice (some ⟨g, 24, none⟩) 4 (c - 24)] (by rfl) rfl rfl (by (try simp only [List.map_toArray, List.map_cons, List.map_nil]); first | done | rfl) ?_
      refine (ref_num_c g 24 4 (c - 24) bs 24 _ (by rw [HL.out]; exact Kd.C_below HR0.out hHeld) HBY.out rfl (by rw [HL.out]; decide) (by decide) (by decide)).mono ?_
      rintro e x20 ⟨rfl, hb⟩
      refine ⟨_, rfl, ?_⟩
      have HP2 := Aside0.mk ((hb.block _ (blk_lt HP.out)).trans HP.out)
      clear HP
      have HP := HP2
      clear HP2
      refine hK.out _ _ (below_then hHeld hHeld.size hb) (fun hHeld => ?_)
      clear hK K
      refine norm_ (a' := ?_) ?_ ?_
      rotate_left
      · show Act.put _ (some 44) _ = _
        simp only [Act.put, List.setIfInBounds_toArray, List.set_cons_zero, List.set_cons_succ, i64_w, i32_w]
        rfl
      refine pure_ (i := 18) (N := some 45) (v := ?_) (a' := ?_) #[true, true, true, true, true, true, true, true, true, true, true, true, true, true, true, true, true, true, true, true, false] rfl rfl (by kernel_rfl) (fun _ _ _ h => h) (Or.inl ⟨by rfl, ?_⟩) ?_ ?_
      rotate_left
      · intro w'
        go_simp
        with_reducible rfl
      rotate_left
      · simp only [Act.put, List.setIfInBounds_toArray, List.set_cons_zero, List.set_cons_succ, i64_w, i32_w]
        rfl
      refine last_ (i := 20) (N := none) #[true, true, true, true, true, true, true, true, true, true, true, true, true, true, true, true, true, true, true, true, true] rfl rfl (by kernel_rfl) (by decide) (fun K hK => ?_)
      rw [if_pos (by rfl)]
      refine wp_store_row 44 (.tmp 4) (.tmp 45) rfl _ (recr (num bs 4) (num bs 8) (num bs 12) (num bs 16) (at_ bs 20) (num bs 24) (.slice none 0 0)) rfl rfl 44 zero44 HP.out (by kernel_rfl) rfl (recr_one _ _ _ _ _ _ _ _ _) ?_
      refine hK.out _ _ ?_
      clear hK K
      refine norm_ (a' := ?_) ?_ ?_
      rotate_left
      · show Act.put _ none _ = _
        simp only [Act.put]
        rfl
      refine done_ (by kernel_rfl) ?_
      go_wp2
      go_meet
      case rel => exact ⟨_, rfl, setRow_heap _ _ _ _ _ _ HP.out, HPL.out, below_setRow hHeld HPL.out _⟩
  case rest =>
    clear HB
    obtain ⟨P, rfl, hp, hpl, hb⟩ := hcut
    have HP := Aside0.mk hp
    have HPL := Aside0.mk hpl
    have HB := Aside0.mk hb
    clear hp hpl hb
    have hx21 : wc.cell? ⟨g, 21, none⟩ = some (.int .u8 ((at_ bs 21 : Nat) : Int)) := byte_at (Kd.C_below HR0.out HB.out) HBY.out 21 (by decide) (by rw [HL.out]; decide)
    have hb21 := at_lt HBY.out 21
    by_cases h2 : at_ bs 21 ≤ 128
    · have hq21 : decide (((at_ bs 21 : Nat) : Int) > 128) = false := decide_eq_false (by omega)
      have HIL := Aside0.mk (show (init bs).length = at_ bs 21 by unfold init; rw [List.length_take, List.length_drop, HL.out]; omega)
      have HIN := Aside0.mk (fun (n : Int) (hn : n ∈ init bs) => HBY.out n (List.mem_of_mem_drop (List.mem_of_mem_take hn)))
      have HN4 := Aside0.mk (And.intro (num_lt HBY.out 4) (And.intro (num_lt HBY.out 8) (And.intro (num_lt HBY.out 12) (And.intro (num_lt HBY.out 16) (And.intro (at_lt HBY.out 20) (num_lt HBY.out 24))))))
      go_upto_region 10 with (first | ((with_reducible refine gate_dst (N := 57) rfl ?_); refine slice28b 57 rfl rfl (.tmp 54) (.tmp 56) g c (at_ bs 21) rfl rfl _ rfl (by first | rfl | (unfold wrap64; omega) | omega) h2 hc ?_) | ((with_reducible refine gate_dst (N := 58) rfl ?_); at_builtin; refine Kd.R_append_rows (Kd.int .u8) (w0 := wc) wc.heap.size rfl (.tmp 53) (.tmp 57) 24 5 (.int .u8 0) 1 rfl Try.underlying24 info5 rfl (by decide) (by decide) (.slice (some ⟨wc.heap.size, 0, none⟩) 0 0) [] (init bs) (some ⟨g, 28, none⟩) (at_ bs 21) (c - 28) (fun _ => True) (fun _ => False) rfl rfl ?aO ?aR (fun _ _ h => h) (fun _ h => h.elim) (fun _ _ => trivial) ?aB ?aS ?aL ?_; (case aO => exact R_empty _ _ _ (Nat.le_refl _)); (case aR => exact Kd.C_alloc (C_sub (Kd.C_below HR0.out HB.out) 28 (at_ bs 21) (by omega)) _); (case aB => exact below_alloc (Below.refl _ _) _); (case aS => simp); (case aL => simp; omega); intro v3 w4 ho hb hg hat; rw [List.nil_append] at ho; have HO := Aside0.mk ho; have HB4 := Aside0.mk hb; clear ho hb hg hat; obtain ⟨A1, c1, e1⟩ := Kd.R_slice HO.out; subst e1; have HP4 := Aside0.mk ((HB4.out.block P (blk_lt HP.out)).trans HP.out); have hxp6 := cell_of_row w4 P 6 _ 44 (0, 0) HP4.out; have hfr6 := frozen_of_row w4 P 6 _ 44 HP4.out))
      have HP6 := Aside0.mk (show (w4.setCell ⟨P, 6, none⟩ (.slice A1 (init bs).length c1)).heap[P]? = some (.cells (recr (num bs 4) (num bs 8) (num bs 12) (num bs 16) (at_ bs 20) (num bs 24) (.slice A1 (init bs).length c1)) 44 (0, 0)) from heap_setCell_same w4 P 6 _ 44 _ HP4.out)
      have HPLT := Aside0.mk (show P < wc.heap.size from blk_lt HP.out)
      have HO6 := Aside0.mk (show (Kd.int .u8).R 5 (w4.setCell ⟨P, 6, none⟩ (.slice A1 (init bs).length c1)) wc.heap.size (fun _ => True) (.slice A1 (init bs).length c1) (init bs) from Kd.R_mono (Kd.R_far (p := ⟨P, 6, none⟩) (Kd.R_mono (Kd.R_bound HO.out) (ok' := fun k => k ≠ P) (fun k hk => by have h1 := hk.2.1; have h2 : P < wc.heap.size := HPLT.out; omega)) (fun k hk => hk) _) (fun _ _ => trivial))
      have HWL := Aside0.mk (show w.heap.size < wc.heap.size by have h1 := HLT.out; have h2 := HB.out.size; omega)
      have HB6 := Aside0.mk (show Below W0.heap.size W0 (w4.setCell ⟨P, 6, none⟩ (.slice A1 (init bs).length c1)) from (below_then HB.out HB.out.size HB4.out).setCell (p := ⟨P, 6, none⟩) HPL.out _)
      clear HP4 HO HB4 HB HPLT hxp6 hfr6 HP hx21 hq21
      generalize w4.setCell ⟨P, 6, none⟩ (.slice A1 (init bs).length c1) = w5 at *
      go_wp2_with ((with_reducible refine gate_dst (N := 61) rfl ?_); refine wpList_load_row rfl 44 (.tmp 4) rfl P rfl 44 (recr (num bs 4) (num bs 8) (num bs 12) (num bs 16) (at_ bs 20) (num bs 24) (.slice A1 (init bs).length c1)) (0, 0) _ HP6.out Try.underlying44 rfl (by kernel_rfl) ?_)
      refine (ref_encode_any (num bs 4) (num bs 8) (num bs 12) (num bs 16) (at_ bs 20) (num bs 24) A1 (init bs).length c1 (init bs) _ HN4.out.1 HN4.out.2.1 HN4.out.2.2.1 HN4.out.2.2.2.1 HN4.out.2.2.2.2.1 HN4.out.2.2.2.2.2 rfl (Kd.R_reads' HO6.out).2.2 (Kd.R_reads' HO6.out).2.1 HIN.out).mono ?_
      rintro e w7 ⟨A7, n7, c7, rfl, ho, hb⟩
      have HV7 := Aside0.mk ho
      have HB7 := Aside0.mk (below_then HB6.out HB6.out.size hb)
      have HO7 := Aside0.mk (Kd.R_below HO6.out hb)
      have HP7 := Aside0.mk ((hb.block P (blk_lt HP6.out)).trans HP6.out)
      have HZ7 := Aside0.mk ((HB7.out.block w.heap.size HLT.out).trans HZ0.out)
      clear ho hb HB6 HO6 HP6
      have HG := Aside0.mk (fun hg : Good bs => show right (num bs 12) (at_ bs 20) (num bs 24) (init bs).length = true ∧ bs = enc (num bs 4) (num bs 8) (num bs 12) (num bs 16) (at_ bs 20) (num bs 24) (init bs) from ⟨by rw [HIL.out]; exact hg.2.2.2.2.1, hg.2.2.2.2.2.symm⟩)
      by_cases hri : right (num bs 12) (at_ bs 20) (num bs 24) (init bs).length = true
      · have HEE := Aside0.mk (show ebytes (num bs 4) (num bs 8) (num bs 12) (num bs 16) (at_ bs 20) (num bs 24) (init bs) = enc (num bs 4) (num bs 8) (num bs 12) (num bs 16) (at_ bs 20) (num bs 24) (init bs) by unfold ebytes; rw [if_pos hri])
        have HGE := Aside0.mk (show bs = enc (num bs 4) (num bs 8) (num bs 12) (num bs 16) (at_ bs 20) (num bs 24) (init bs) → Good bs from fun h => ⟨HL.out, H0.out, H1.out, h2, by rw [← HIL.out]; exact hri, h.symm⟩)
        rw [hri, show ecode true = 0 from rfl]
        rw [HEE.out] at HV7
        have HEB := Aside0.mk (bytes_enc (s := num bs 4) (f := num bs 8) (b := num bs 12) (m := num bs 16) (d := num bs 24) HN4.out.2.2.2.2.1 HIN.out)
        have HEL := Aside0.mk (enc_len (num bs 4) (num bs 8) (num bs 12) (num bs 16) (at_ bs 20) (num bs 24) (init bs) (by rw [HIL.out]; exact h2))
        have HG2 := Aside0.mk (fun h => (HG.out h).2)
        clear HEE HG hri h2
        generalize enc (num bs 4) (num bs 8) (num bs 12) (num bs 16) (at_ bs 20) (num bs 24) (init bs) = E at *
        have hfo := (Kd.own_of_R HV7.out).form (by rw [HEL.out]; decide)
        obtain ⟨g7, cap7, e7, hg1, hg2⟩ := hfo
        have hcv := (Kd.R_reads' HV7.out).2.2
        injection e7 with e7 e8 e9
        subst e7
        subst e9
        rw [HEL.out] at e8 hcv
        subst e8
        have HCV := Aside0.mk hcv
        clear hcv hg1 hg2 HV7
        go_wp2_with (fail)
        go_loopw [8] (fun v wr => CmpAt bs E w7 v wr) (fun v _ => 160 - (intOf v).toNat)
        case atStart => exact ⟨0, by omega, rfl, Aside0.mk (fun i hi => absurd hi (by omega)), Aside0.mk (Below.refl _ _)⟩
        case round =>
          obtain ⟨k, hk, rfl, HS, HBR⟩ := hrel
          by_cases hlt : k < 160
          · have hx1 := byte_at (Kd.C_below (Kd.C_below HR0.out HB7.out) HBR.out) HBY.out k hlt (by rw [HL.out]; exact hlt)
            have hx2 := byte_at (Kd.C_below HCV.out HBR.out) HEB.out k hlt (by rw [HEL.out]; exact hlt)
            have hki : (k : Int) < 160 := by omega
            clear hx1 hx2
            by_cases he : at_ bs k = at_ E k
            · have hq : (((at_ bs k : Nat) : Int) != ((at_ E k : Nat) : Int)) = false := by rw [he]; simp
              have HS2 := Aside0.mk (show ∀ i, i < k + 1 → at_ bs i = at_ E i from fun i hi => by
                by_cases h : i = k
                · subst h; exact he
                · exact HS.out i (by omega))
              clear he
              go_upto_region 16 with (fail)
              refine start_ (n := 9) (S := (fun w' => Below w7.heap.size w7 w')) (ds := []) #[false, false, false, false, false, false, false, false, false] (by kernel_rfl) rfl rfl (below_drew1 HBR.out) (fun hHeld => ?_)
              refine pure_ (i := 0) (N := some 72) (v := ?_) (a' := ?_) #[true, false, false, false, false, false, false, false, false] rfl rfl (by kernel_rfl) (fun _ _ _ h => h) (Or.inl ⟨by rfl, ?_⟩) ?_ ?_
              rotate_left
              · intro w'
                go_simp
                with_reducible rfl
              rotate_left
              · simp only [Act.put, List.setIfInBounds_toArray, List.set_cons_zero, List.set_cons_succ, i64_w, i32_w]
                rfl
              refine pure_ (i := 1) (N := some 73) (v := ?_) (a' := ?_) #[true, true, false, false, false, false, false, false, false] rfl rfl (by kernel_rfl) (fun _ _ _ h => h) (Or.inl ⟨by rfl, ?_⟩) ?_ ?_
              rotate_left
              · intro w'
                go_simp
                with_reducible rfl
              rotate_left
              · simp only [Act.put, List.setIfInBounds_toArray, List.set_cons_zero, List.set_cons_succ, i64_w, i32_w]
                rfl
              refine pure_ (i := 2) (N := some 74) (v := ?_) (a' := ?_) #[true, true, true, false, false, false, false, false, false] rfl rfl (by kernel_rfl) (fun _ _ _ h => h) (Or.inl ⟨by rfl, ?_⟩) ?_ ?_
              rotate_left
              · intro w'
                go_simp
                with_reducible rfl
              rotate_left
              · simp only [Act.put, List.setIfInBounds_toArray, List.set_cons_zero, List.set_cons_succ, i64_w, i32_w]
                rfl
              refine take_ (i := 3) (N := some 75) (v := ?_) (a' := ?_) #[true, true, true, true, false, false, false, false, false] rfl rfl (by kernel_rfl) (fun _ _ _ h => h) (Or.inl ⟨by rfl, ?_⟩) hHeld ?_ ?_
              rotate_left
              · intro w' hw'
                have hx1 := byte_at (Kd.C_below (Kd.C_below HR0.out HB7.out) hw') HBY.out k hlt (by rw [HL.out]; exact hlt)
                go_simp
                with_reducible rfl
              rotate_left
              · simp only [Act.put, List.setIfInBounds_toArray, List.set_cons_zero, List.set_cons_succ, i64_w, i32_w]
                rfl
              refine pure_ (i := 4) (N := some 76) (v := ?_) (a' := ?_) #[true, true, true, true, true, false, false, false, false] rfl rfl (by kernel_rfl) (fun _ _ _ h => h) (Or.inl ⟨by rfl, ?_⟩) ?_ ?_
              rotate_left
              · intro w'
                go_simp
                with_reducible rfl
              rotate_left
              · simp only [Act.put, List.setIfInBounds_toArray, List.set_cons_zero, List.set_cons_succ, i64_w, i32_w]
                rfl
              refine pure_ (i := 5) (N := some 77) (v := ?_) (a' := ?_) #[true, true, true, true, true, true, false, false, false] rfl rfl (by kernel_rfl) (fun _ _ _ h => h) (Or.inl ⟨by rfl, ?_⟩) ?_ ?_
              rotate_left
              · intro w'
                go_simp
                with_reducible rfl
              rotate_left
              · simp only [Act.put, List.setIfInBounds_toArray, List.set_cons_zero, List.set_cons_succ, i64_w, i32_w]
                rfl
              refine pure_ (i := 6) (N := some 78) (v := ?_) (a' := ?_) #[true, true, true, true, true, true, true, false, false] rfl rfl (by kernel_rfl) (fun _ _ _ h => h) (Or.inl ⟨by rfl, ?_⟩) ?_ ?_
              rotate_left
              · intro w'
                go_simp
                with_reducible rfl
              rotate_left
              · simp only [Act.put, List.setIfInBounds_toArray, List.set_cons_zero, List.set_cons_succ, i64_w, i32_w]
                rfl
              refine take_ (i := 7) (N := some 79) (v := ?_) (a' := ?_) #[true, true, true, true, true, true, true, true, false] rfl rfl (by kernel_rfl) (fun _ _ _ h => h) (Or.inl ⟨by rfl, ?_⟩) hHeld ?_ ?_
              rotate_left
              · intro w' hw'
                have hx2 := byte_at (Kd.C_below HCV.out hw') HEB.out k hlt (by rw [HEL.out]; exact hlt)
                go_simp
                with_reducible rfl
              rotate_left
              · simp only [Act.put, List.setIfInBounds_toArray, List.set_cons_zero, List.set_cons_succ, i64_w, i32_w]
                rfl
              refine pure_ (i := 8) (N := some 80) (v := ?_) (a' := ?_) #[true, true, true, true, true, true, true, true, true] rfl rfl (by kernel_rfl) (fun _ _ _ h => h) (Or.inl ⟨by rfl, ?_⟩) ?_ ?_
              rotate_left
              · intro w'
                go_simp
                with_reducible rfl
              rotate_left
              · simp only [Act.put, List.setIfInBounds_toArray, List.set_cons_zero, List.set_cons_succ, i64_w, i32_w]
                rfl
              refine done_ (by kernel_rfl) ?_
              go_wp2
              go_roundw
              case measure => simp [intOf]; omega
              case rel => exact ⟨k + 1, by omega, by go_num, HS2, Aside0.mk hHeld⟩
            · have hq : (((at_ bs k : Nat) : Int) != ((at_ E k : Nat) : Int)) = true := by rw [bne_iff_ne]; omega
              have HNG := Aside0.mk (fun hg : Good bs => he (congrArg (fun l => at_ l k) (HG2.out hg)))
              clear he
              go_upto_region 16 with (fail)
              refine start_ (n := 9) (S := (fun w' => Below w7.heap.size w7 w')) (ds := []) #[false, false, false, false, false, false, false, false, false] (by kernel_rfl) rfl rfl (below_drew1 HBR.out) (fun hHeld => ?_)
              refine pure_ (i := 0) (N := some 72) (v := ?_) (a' := ?_) #[true, false, false, false, false, false, false, false, false] rfl rfl (by kernel_rfl) (fun _ _ _ h => h) (Or.inl ⟨by rfl, ?_⟩) ?_ ?_
              rotate_left
              · intro w'
                go_simp
                with_reducible rfl
              rotate_left
              · simp only [Act.put, List.setIfInBounds_toArray, List.set_cons_zero, List.set_cons_succ, i64_w, i32_w]
                rfl
              refine pure_ (i := 1) (N := some 73) (v := ?_) (a' := ?_) #[true, true, false, false, false, false, false, false, false] rfl rfl (by kernel_rfl) (fun _ _ _ h => h) (Or.inl ⟨by rfl, ?_⟩) ?_ ?_
              rotate_left
              · intro w'
                go_simp
                with_reducible rfl
              rotate_left
              · simp only [Act.put, List.setIfInBounds_toArray, List.set_cons_zero, List.set_cons_succ, i64_w, i32_w]
                rfl
              refine pure_ (i := 2) (N := some 74) (v := ?_) (a' := ?_) #[true, true, true, false, false, false, false, false, false] rfl rfl (by kernel_rfl) (fun _ _ _ h => h) (Or.inl ⟨by rfl, ?_⟩) ?_ ?_
              rotate_left
              · intro w'
                go_simp
                with_reducible rfl
              rotate_left
              · simp only [Act.put, List.setIfInBounds_toArray, List.set_cons_zero, List.set_cons_succ, i64_w, i32_w]
                rfl
              refine take_ (i := 3) (N := some 75) (v := ?_) (a' := ?_) #[true, true, true, true, false, false, false, false, false] rfl rfl (by kernel_rfl) (fun _ _ _ h => h) (Or.inl ⟨by rfl, ?_⟩) hHeld ?_ ?_
              rotate_left
              · intro w' hw'
                have hx1 := byte_at (Kd.C_below (Kd.C_below HR0.out HB7.out) hw') HBY.out k hlt (by rw [HL.out]; exact hlt)
                go_simp
                with_reducible rfl
              rotate_left
              · simp only [Act.put, List.setIfInBounds_toArray, List.set_cons_zero, List.set_cons_succ, i64_w, i32_w]
                rfl
              refine pure_ (i := 4) (N := some 76) (v := ?_) (a' := ?_) #[true, true, true, true, true, false, false, false, false] rfl rfl (by kernel_rfl) (fun _ _ _ h => h) (Or.inl ⟨by rfl, ?_⟩) ?_ ?_
              rotate_left
              · intro w'
                go_simp
                with_reducible rfl
              rotate_left
              · simp only [Act.put, List.setIfInBounds_toArray, List.set_cons_zero, List.set_cons_succ, i64_w, i32_w]
                rfl
              refine pure_ (i := 5) (N := some 77) (v := ?_) (a' := ?_) #[true, true, true, true, true, true, false, false, false] rfl rfl (by kernel_rfl) (fun _ _ _ h => h) (Or.inl ⟨by rfl, ?_⟩) ?_ ?_
              rotate_left
              · intro w'
                go_simp
                with_reducible rfl
              rotate_left
              · simp only [Act.put, List.setIfInBounds_toArray, List.set_cons_zero, List.set_cons_succ, i64_w, i32_w]
                rfl
              refine pure_ (i := 6) (N := some 78) (v := ?_) (a' := ?_) #[true, true, true, true, true, true, true, false, false] rfl rfl (by kernel_rfl) (fun _ _ _ h => h) (Or.inl ⟨by rfl, ?_⟩) ?_ ?_
              rotate_left
              · intro w'
                go_simp
                with_reducible rfl
              rotate_left
              · simp only [Act.put, List.setIfInBounds_toArray, List.set_cons_zero, List.set_cons_succ, i64_w, i32_w]
                rfl
              refine take_ (i := 7) (N := some 79) (v := ?_) (a' := ?_) #[true, true, true, true, true, true, true, true, false] rfl rfl (by kernel_rfl) (fun _ _ _ h => h) (Or.inl ⟨by rfl, ?_⟩) hHeld ?_ ?_
              rotate_left
              · intro w' hw'
                have hx2 := byte_at (Kd.C_below HCV.out hw') HEB.out k hlt (by rw [HEL.out]; exact hlt)
                go_simp
                with_reducible rfl
              rotate_left
              · simp only [Act.put, List.setIfInBounds_toArray, List.set_cons_zero, List.set_cons_succ, i64_w, i32_w]
                rfl
              refine pure_ (i := 8) (N := some 80) (v := ?_) (a' := ?_) #[true, true, true, true, true, true, true, true, true] rfl rfl (by kernel_rfl) (fun _ _ _ h => h) (Or.inl ⟨by rfl, ?_⟩) ?_ ?_
              rotate_left
              · intro w'
                go_simp
                with_reducible rfl
              rotate_left
              · simp only [Act.put, List.setIfInBounds_toArray, List.set_cons_zero, List.set_cons_succ, i64_w, i32_w]
                rfl
              refine done_ (by kernel_rfl) ?_
              have HZ := Aside0.mk ((hHeld.block w.heap.size (blk_lt HZ7.out)).trans HZ7.out)
              have HB8 := Aside0.mk (below_then HB7.out HB7.out.size hHeld)
              go_wp2_with (refine wpList_store_row rfl 44 (.tmp 2) (.tmp 81) rfl w.heap.size zero44 rfl rfl 44 zero44 (HZ.out) (by kernel_rfl) rfl zero44_one ?_)
              exact bodyPost_ret (v := .tuple #[.agg zero44, .int .i64 7]) (results27 rfl rfl (setRow_heap _ _ _ _ _ _ HZ.out) rfl) rfl ⟨Or.inr ⟨by rw [HCODE.out]; rfl, HNG.out⟩, below_setRow (below_step HW0.out HB8.out) (Nat.le_refl _) _⟩
          · obtain rfl : k = 160 := by omega
            have HGO := Aside0.mk (HGE.out (all_same bs E HBY.out HEB.out HL.out HEL.out HS.out))
            have HP8 := Aside0.mk ((HBR.out.block P (blk_lt HP7.out)).trans HP7.out)
            have HZ8 := Aside0.mk ((HBR.out.block w.heap.size (blk_lt HZ7.out)).trans HZ7.out)
            have HO8 := Aside0.mk (Kd.R_below HO7.out HBR.out)
            have HB8 := Aside0.mk (below_then HB7.out HB7.out.size HBR.out)
            go_wp2_with (first | ((with_reducible refine gate_dst (N := 82) rfl ?_); refine wpList_load_row rfl 44 (.tmp 4) rfl P rfl 44 (recr (num bs 4) (num bs 8) (num bs 12) (num bs 16) (at_ bs 20) (num bs 24) (.slice A1 (init bs).length c1)) (0, 0) _ HP8.out Try.underlying44 rfl (by kernel_rfl) ?_) | (refine wpList_store_row rfl 44 (.tmp 2) (.tmp 82) rfl w.heap.size (recr (num bs 4) (num bs 8) (num bs 12) (num bs 16) (at_ bs 20) (num bs 24) (.slice A1 (init bs).length c1)) rfl rfl 44 zero44 HZ8.out (by kernel_rfl) rfl (recr_one _ _ _ _ _ _ _ _ _) ?_))
            refine bodyPost_ret (v := .tuple #[.agg (recr (num bs 4) (num bs 8) (num bs 12) (num bs 16) (at_ bs 20) (num bs 24) (.slice A1 (init bs).length c1)), .int .i64 0]) (results27 rfl rfl (setRow_heap _ _ _ _ _ _ HZ8.out) rfl) rfl ⟨Or.inl ⟨_, _, _, rfl, ?_, HGO.out⟩, below_setRow (below_step HW0.out HB8.out) (Nat.le_refl _) _⟩
            refine Kd.R_lower (Kd.R_mono (Kd.R_step (Kd.R_mono (Kd.R_bound HO8.out) (ok' := fun k => k ≠ w.heap.size) (fun k hk => ?_)) (fun k hk _ => setRow_other wr _ k _ hk)) (fun _ _ => trivial)) (Nat.le_of_lt HWL.out)
            have h1 := hk.2.1
            have h2 := HWL.out
            omega
      · have HNG := Aside0.mk (fun hg : Good bs => hri (HG.out hg).1)
        rw [show right (num bs 12) (at_ bs 20) (num bs 24) (init bs).length = false by simpa using hri, show ecode false = 1 from rfl]
        clear HG hri h2
        have HZ := HZ7
        go_wp2_with (refine wpList_store_row rfl 44 (.tmp 2) (.tmp 67) rfl w.heap.size zero44 rfl rfl 44 zero44 (HZ.out) (by kernel_rfl) rfl zero44_one ?_)
        exact bodyPost_ret (v := .tuple #[.agg zero44, .int .i64 7]) (results27 rfl rfl (setRow_heap _ _ _ _ _ _ HZ.out) rfl) rfl ⟨Or.inr ⟨by rw [HCODE.out]; rfl, HNG.out⟩, below_setRow (below_step HW0.out HB7.out) (Nat.le_refl _) _⟩
    · have hq21 : decide (((at_ bs 21 : Nat) : Int) > 128) = true := decide_eq_true (by omega)
      have HNG := Aside0.mk (fun hg : Good bs => h2 hg.2.2.2.1)
      clear h2
      have HZ := Aside0.mk ((HB.out.block w.heap.size HLT.out).trans HZ0.out)
      go_wp2_with (refine wpList_store_row rfl 44 (.tmp 2) (.tmp 52) rfl w.heap.size zero44 rfl rfl 44 zero44 (HZ.out) (by kernel_rfl) rfl zero44_one ?_)
      exact bodyPost_ret (v := .tuple #[.agg zero44, .int .i64 7]) (results27 rfl rfl (setRow_heap _ _ _ _ _ _ HZ.out) rfl) rfl ⟨Or.inr ⟨by rw [HCODE.out]; rfl, HNG.out⟩, below_setRow (below_step HW0.out HB.out) (Nat.le_refl _) _⟩
theorem rparse_any (A : Option Addr) (n c : Nat) (bs : List Int) (w : World) (hn : n = bs.length) (hA : n = 160 → ∃ g, A = some ⟨g, 0, none⟩) (hr : (Kd.int .u8).C w A n bs) (hby : Bytes bs) (hc : n ≤ c) :
    Calls Try.prog 27 #[.slice A n c] w (RParsed bs w) := by
  by_cases h : n = 160
  · obtain ⟨g, rfl⟩ := hA h
    subst h
    by_cases h0 : num bs 0 = 827216706
    · by_cases h1 : rsum (bs.take 156) = num bs 156
      · exact rparse_deep g c bs w hn.symm hr hby hc h0 h1
      · have hcode : code bs = 8 := by unfold code; rw [if_pos ⟨hn.symm, h0, h1⟩]
        refine (rparse_sum g c bs w hn.symm hr hby hc h0 h1).mono ?_
        rintro e w' ⟨rfl, hb⟩
        exact ⟨Or.inr ⟨by rw [hcode]; rfl, fun hg => h1 hg.2.2.1⟩, hb⟩
    · have hcode : code bs = 7 := by unfold code; rw [if_neg (fun h => h0 h.2.1)]
      refine (rparse_mark g c bs w hn.symm hr hby hc h0).mono ?_
      rintro e w' ⟨rfl, hb⟩
      exact ⟨Or.inr ⟨by rw [hcode]; rfl, fun hg => h0 hg.2.1⟩, hb⟩
  · have hcode : code bs = 7 := by unfold code; rw [if_neg (fun h' => h (hn.trans h'.1))]
    refine (rparse_len A n c w h).mono ?_
    rintro e w' ⟨rfl, hb⟩
    exact ⟨Or.inr ⟨by rw [hcode]; rfl, fun hg => h (hn.trans hg.1)⟩, hb⟩
end Go.Proofs.Ytjblklejjemdhaa.Krec
