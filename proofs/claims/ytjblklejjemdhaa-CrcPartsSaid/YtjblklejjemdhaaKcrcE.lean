/- CrcParts, walked: whatever parts come in, the law's function answers true. Printed in part by wip/gen/crc.py. -/
import Derived.Test.YtjblklejjemdhaaKcrcD
namespace Go.Proofs.Ytjblklejjemdhaa.Kcrc
set_option linter.unusedVariables false
set_option linter.unusedSimpArgs false
open Go.RowKit Go.Proofs.Ytjblklejjemdhaa.PCrcSums Go.Proofs.YtjblklejjemdhaaW.PrintWords Go.Proofs.YtjblklejjemdhaaW.PrintLast Go.Proofs.YtjblklejjemdhaaW.PrintMore Kbase
theorem flat_len : ∀ (l : List (List Int)), (∀ b ∈ l, b.length ≤ 300) → l.flatten.length ≤ 300 * l.length
  | [], _ => by simp
  | b :: l, h => by
    have h1 := flat_len l (fun x hx => h x (List.mem_cons_of_mem _ hx))
    have h2 := h b List.mem_cons_self
    rw [List.flatten_cons, List.length_append, List.length_cons]
    omega
set_option maxHeartbeats 1000000 in
set_option maxRecDepth 100000 in
theorem parts_big (A : Option Addr) (c : Nat) (l : List (List Int)) (w : World) (hbig : 30 < l.length) :
    Calls Try.prog 6 #[.slice A l.length c] w fun e w' => e = .returned (.bool true) ∧ Below w.heap.size w w' := by
  have HB := Aside0.mk (Below.refl w.heap.size w)
  have hb1 : decide ((l.length : Int) > 30) = true := decide_eq_true (by omega)
  clear hbig
  go_enter Try.func6, Try.ntmps6
  go_wp2_with (go_at_call 14; refine (lives_c _).mono ?_; rintro e w5 ⟨rfl, hb⟩; have n0_ := Aside0.mk (below_step (by repeat (first | (with_reducible first | exact HB.out | apply below_alloc | apply pw_below_drewN | apply below_drew1) | exact HB.out)) hb); clear HB; have HB := n0_; clear n0_ hb)
  go_ret
  exact ⟨rfl, HB.out⟩
set_option maxHeartbeats 4000000 in
set_option maxRecDepth 100000 in
theorem parts_small (A : Option Addr) (c : Nat) (l : List (List Int)) (w : World) (hr : (Kd.slice 5 (Kd.int .u8)).C w A l.length l) (hc : l.length ≤ c) (hby : ∀ b ∈ l, Bytes b) (hsm : l.length ≤ 30) :
    Calls Try.prog 6 #[.slice A l.length c] w fun e w' => e = .returned (.bool true) ∧ Below w.heap.size w w' := by
  have HR := Aside0.mk hr
  have HC := Aside0.mk hc
  have HBY := Aside0.mk hby
  clear hr hc hby
  have HB := Aside0.mk (Below.refl w.heap.size w)
  have hb1 : decide ((l.length : Int) > 30) = false := decide_eq_false (by omega)
  go_enter Try.func6, Try.ntmps6
  go_wp2_with (go_at_call 14; refine (lives_c _).mono ?_; rintro e w5 ⟨rfl, hb⟩; have n0_ := Aside0.mk (below_step (by repeat (first | (with_reducible first | exact HB.out | apply below_alloc | apply pw_below_drewN | apply below_drew1) | exact HB.out)) hb); clear HB; have HB := n0_; clear n0_ hb)
  clear hb1
  go_loopw [3, 4, 17] (fun v s i wr => ∃ k : Nat, k ≤ l.length ∧ i = .int .i64 k ∧ s = .int .u32 ((update 0 (l.take k).flatten : Nat) : Int) ∧ Aside0 (∀ b ∈ l.take k, b.length ≤ 300) ∧ Aside0 (Kd.R (Kd.int .u8) 5 wr w.heap.size (fun _ => True) v (l.take k).flatten) ∧ Aside0 (Below w.heap.size w wr)) (fun _ _ i _ => l.length - (intOf i).toNat)
  case atStart => exact ⟨0, Nat.zero_le _, rfl, by rw [List.take_zero, List.flatten_nil, update_nil 0 (by decide)]; rfl, ⟨by simp⟩, ⟨by rw [List.take_zero, List.flatten_nil]; exact Kd.R_nil _ _ _ _ _⟩, HB⟩
  case round =>
    clear HB
    obtain ⟨k, hk, rfl, rfl, HT, HO, HB⟩ := hrel
    by_cases hlt : k < l.length
    · obtain ⟨ad, A1, c1, e1, hx1, hl1, hC1⟩ := C_row_at HR.out k hlt hlt
      subst e1
      replace hx1 := (HB.out.cell (World.block_lt_of_cell? w _ hx1)).trans hx1
      have HUN := Aside0.mk (show update (update 0 (l.take k).flatten) l[k] = update 0 (l.take (k + 1)).flatten by
        rw [update_append _ _ _ (flat_bytes (fun b hb => HBY.out b (List.mem_of_mem_take hb))), List.take_succ_eq_append_getElem hlt, List.flatten_append]
        simp)
      have HTN := Aside0.mk (show l.take (k + 1) = l.take k ++ [l[k]] from List.take_succ_eq_append_getElem hlt)
      have HBX := Aside0.mk (HBY.out _ (List.getElem_mem hlt))
      have hu : update 0 (l.take k).flatten < 4294967296 := by have := update_le 0 (l.take k).flatten; omega
      have HSZ := Aside0.mk (show (l.take k).flatten.length ≤ 9000 by
        have h1 := flat_len (l.take k) HT.out
        have h2 : (l.take k).length ≤ 30 := by rw [List.length_take]; omega
        omega)
      generalize update 0 (l.take k).flatten = s at *
      generalize l[k] = b at *
      have HR1 := Aside0.mk hC1
      clear hl1 hC1
      have hkb : decide ((k : Int) < (l.length : Int)) = true := decide_eq_true (by omega)
      by_cases h300 : b.length ≤ 300
      · have hd : decide ((b.length : Int) > 300) = false := decide_eq_false (by omega)
        have HL := Aside0.mk (Below.refl wr.heap.size wr)
        go_wp2_with (at_builtin; refine Kd.R_append_rows (Kd.int .u8) (w0 := w) w.heap.size rfl (.tmp 24) (.tmp 25) 24 5 (.int .u8 0) 1 rfl Try.underlying24 info5 rfl (by decide) (by decide) u3 (l.take k).flatten b A1 b.length c1 (fun _ => True) (fun _ => False) rfl rfl ?aO ?aR (fun _ _ h => h) (fun _ h => h.elim) (fun _ _ => trivial) ?aB ?aS ?aL ?_; (case aO => exact HO.out); (case aR => exact Kd.C_below HR1.out HB.out); (case aB => exact HB.out); (case aS => exact HB.out.size); (case aL => have := HSZ.out; omega); intro v9 w9 ho hb hg hat; have HO9 := Aside0.mk ho; clear HB; have HB := Aside0.mk hb; clear ho hb hg hat)
        have HR2 := Aside0.mk (show (Kd.int .u8).C w9 A1 b.length b from Kd.C_below HR1.out HB.out)
        refine (update_c A1 b.length c1 s b _ hu rfl HR2.out HBX.out).mono ?_
        rintro e w10 ⟨rfl, hb⟩
        have n0_ := Aside0.mk (below_step HB.out hb)
        have n1_ := Aside0.mk (Kd.R_below HO9.out hb)
        clear HB HO9
        have HB := n0_
        have HO9 := n1_
        clear n0_ n1_ hb
        go_wp2_with (fail)
        go_roundw
        case measure => simp [intOf]; omega
        case rel =>
          refine ⟨k + 1, by omega, by go_num, by rw [HUN.out], ⟨?_⟩, ⟨?_⟩, HB⟩
          · rw [HTN.out]
            intro x hx
            rcases List.mem_append.1 hx with hx | hx
            · exact HT.out x hx
            · rw [List.mem_singleton.1 hx]; exact h300
          · rw [HTN.out, List.flatten_append, show [b].flatten = b by simp]; exact HO9.out
      · have hd : decide ((b.length : Int) > 300) = true := decide_eq_true (by omega)
        go_wp2
        go_ret
        exact ⟨rfl, HB.out⟩
    · have hke : k = l.length := by omega
      have hkb : decide ((k : Int) < (l.length : Int)) = false := decide_eq_false (by omega)
      have HS0 := Aside0.mk (flat_len (l.take k) HT.out)
      rw [show l.take k = l from by rw [hke]; exact List.take_length] at *
      clear hke HT
      have HFB := Aside0.mk (flat_bytes HBY.out)
      generalize hfl : l.flatten = fl at HO HS0 HFB ⊢
      have HFL := Aside0.mk hfl
      clear hfl
      obtain ⟨A3, c3, e3⟩ := Kd.R_slice HO.out
      subst e3
      go_wp2_with (fail)
      refine (sum_c _ 1 1 [fl] _ rfl (C_box (Kd.R_reads' HO.out).2.2 rfl (Kd.R_reads' HO.out).2.1) (by intro b hb; rw [List.mem_singleton.1 hb]; exact HFB.out)).mono ?_
      rintro e w11 ⟨rfl, hb⟩
      rw [show [fl].flatten = fl by simp]
      have n0_ := Aside0.mk (below_step (below_alloc HB.out _) hb)
      clear HB
      have HB := n0_
      clear n0_ hb
      go_wp2_with (fail)
      refine (sum_c A l.length c l _ rfl (Kd.C_below HR.out HB.out) HBY.out).mono ?_
      rintro e w12 ⟨rfl, hb⟩
      rw [HFL.out]
      have n0_ := Aside0.mk (below_step HB.out hb)
      clear HB
      have HB := n0_
      clear n0_ hb
      go_wp2_with (fail)
      refine (sum_c none 0 0 [] _ rfl ⟨rfl, by decide, fun h => absurd h (by decide)⟩ (by intro n hn; cases hn)).mono ?_
      rintro e w13 ⟨rfl, hb⟩
      rw [show ([] : List (List Int)).flatten = [] from rfl, update_nil 0 (by decide)]
      have n0_ := Aside0.mk (below_step HB.out hb)
      clear HB
      have HB := n0_
      clear n0_ hb
      go_wp2
      go_ret
      exact ⟨by simp, HB.out⟩
theorem parts_any (A : Option Addr) (c : Nat) (l : List (List Int)) (w : World) (hr : (Kd.slice 5 (Kd.int .u8)).C w A l.length l) (hc : l.length ≤ c) (hby : ∀ b ∈ l, Bytes b) :
    Calls Try.prog 6 #[.slice A l.length c] w fun e w' => e = .returned (.bool true) ∧ Below w.heap.size w w' := by
  by_cases h : 30 < l.length
  · exact parts_big A c l w h
  · exact parts_small A c l w hr hc hby (by omega)
end Go.Proofs.Ytjblklejjemdhaa.Kcrc
