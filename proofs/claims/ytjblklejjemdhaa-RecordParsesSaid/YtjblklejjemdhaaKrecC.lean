/- A number put behind bytes within their capacity, the sums, a number's bytes by the reference: walked. -/
import Derived.Test.YtjblklejjemdhaaKrecB
import Derived.OwnWalk
namespace Go.Proofs.Ytjblklejjemdhaa.Krec
set_option linter.unusedVariables false
set_option linter.unusedSimpArgs false
open Go.RowKit Go.Proofs.YtjblklejjemdhaaW.PrintWords Go.Proofs.YtjblklejjemdhaaW.PrintLast Go.Proofs.YtjblklejjemdhaaW.PrintMore Kbase Kcrc
theorem info5 : (Try.prog.info? 5).map (fun i => (i.zero, i.size, i.bytes)) = some (some (.int .u8 0), 1, 1) := by kernel_rfl
theorem blk_old (w : World) (o : Obj) (i : Nat) (h : i < w.heap.size) : (w.alloc o).heap[i]? = w.heap[i]? := (below_alloc (Below.refl _ _) o).block i h
/-- Bytes written over others from a place on. -/
def splice (xs : List Int) (n : Nat) (ys : List Int) : List Int := xs.take n ++ ys ++ xs.drop (n + ys.length)
theorem splice_len (xs : List Int) (n : Nat) (ys : List Int) (h : n + ys.length ≤ xs.length) : (splice xs n ys).length = xs.length := by
  unfold splice
  simp only [List.length_append, List.length_take, List.length_drop]
  omega
/-- The block of a row of bytes, known whole. -/
def Buf (W : World) (g : Nat) (xs : List Int) : Prop := W.heap[g]? = some (.cells (nums .u8 xs).toArray 5 (0, 0))
theorem Buf.C {W : World} {g : Nat} {xs : List Int} (h : Buf W g xs) (n : Nat) (hn : n ≤ xs.length) (hm : xs.length ≤ 1000000) : (Kd.int .u8).C W (some ⟨g, 0, none⟩) n (xs.take n) := by
  have hr : ReadsInt W .u8 (some ⟨g, 0, none⟩) n (xs.take n) := by
    refine ⟨by rw [List.length_take]; omega, by omega, fun _ => ⟨_, rfl, fun j hj => ?_⟩⟩
    rw [add_plain, cell_of_row _ _ j _ 5 (0, 0) h]
    simp only [nums, List.getElem?_toArray, List.getElem?_map, List.getD_eq_getElem?_getD, List.getElem?_take, if_pos hj]
    rw [List.getElem?_eq_getElem (show j < xs.length by omega)]
    rfl
  exact Kd.C_of_reads (d := (0 : Int)) (h1 := fun _ => rfl) hr
theorem run_append_buf {W : World} (g n cap : Nat) (xs ys : List Int) (ad : Addr) (m c : Nat) (ty : TypeId) (hb : Buf W g xs) (hy : (Kd.int .u8).C W (some ad) m ys) (hroom : n + m ≤ cap) (hcap : cap ≤ xs.length) :
    (Builtin.append_ #[24, 24] ty #[.slice (some ⟨g, 0, none⟩) n cap, .slice (some ad) m c]).run Try.prog W = .ok (.slice (some ⟨g, 0, none⟩) (n + m) cap) (W.setRow g (nums .u8 (splice xs n ys)).toArray) := by
  obtain ⟨i0, hi, hzz⟩ := Option.map_eq_some_iff.1 info5
  simp only [Prod.mk.injEq] at hzz
  have hyl : ys.length = m := hy.1
  have hl : (nums .u8 ys).length = m * i0.size := by rw [hzz.2.1, nums_length, hyl, Nat.mul_one]
  have h := run_append_room (P := Try.prog) W 24 ty 5 i0 Try.underlying24 hi g n cap _ hb ad m c (nums .u8 ys) hl (fun j u hj => by
      have hjl : j < ys.length := by have := (List.getElem?_eq_some_iff.1 hj).1; rwa [nums_length] at this
      obtain ⟨ad', e, hc⟩ := C_at hy j (by omega) hjl
      cases e
      rw [hc]
      simp only [nums, List.getElem?_map, List.getElem?_eq_getElem hjl, Option.map_some, Option.some.injEq] at hj
      rw [hj]) (fun u hu => by
      simp only [nums, List.mem_map] at hu
      obtain ⟨x, _, rfl⟩ := hu
      rfl) hroom (by rw [hl, hzz.2.1, Nat.mul_one, Nat.mul_one]; simp [nums]; omega)
  rw [h]
  congr 3
  unfold splice
  rw [nums_length, hzz.2.1, Nat.mul_one]
  simp [nums]
section
variable {ops : Array Oper} {rest : List Oper} {o : Oper} {a : Act} {Q : Exit → Act → World → Prop} {W : World}
theorem event_append (s x : Operand) (ho : o.op = .call { callee := .builtin .append, args := #[s, x], argTypes := #[24, 24] }) (g n cap : Nat) (xs ys : List Int) (ad : Addr) (m c : Nat) (hs : a.eval s = .slice (some ⟨g, 0, none⟩) n cap) (hx : a.eval x = .slice (some ad) m c)
    (hb : Buf W g xs) (hy : (Kd.int .u8).C W (some ad) m ys) (hroom : n + m ≤ cap) (hcap : cap ≤ xs.length) :
    (execOp a.eval o).run Try.prog W = .ok (.value (.slice (some ⟨g, 0, none⟩) (n + m) cap)) (W.setRow g (nums .u8 (splice xs n ys)).toArray) := by
  have h := run_append_buf g n cap xs ys ad m c o.type hb hy hroom hcap
  simp [execOp, ho, resolve, invoke, builtin, hs, hx, h, Result.andThen]
theorem append_buf (hgd : o.guard = none) (s x : Operand) (ho : o.op = .call { callee := .builtin .append, args := #[s, x], argTypes := #[24, 24] }) (g n cap : Nat) (xs ys : List Int) (ad : Addr) (m c : Nat) (hs : a.eval s = .slice (some ⟨g, 0, none⟩) n cap) (hx : a.eval x = .slice (some ad) m c)
    (hb : Buf W g xs) (hy : (Kd.int .u8).C W (some ad) m ys) (hroom : n + m ≤ cap) (hcap : cap ≤ xs.length)
    (h : wpList Try.prog ops Q rest (a.put o.dst (.slice (some ⟨g, 0, none⟩) (n + m) cap)) (W.setRow g (nums .u8 (splice xs n ys)).toArray)) : wpList Try.prog ops Q (o :: rest) a W :=
  Kd.event_run hgd (event_append s x ho g n cap xs ys ad m c hs hx hb hy hroom hcap) h
end
theorem Buf.set {W : World} {g : Nat} {xs : List Int} (h : Buf W g xs) (ys : List Int) : Buf (W.setRow g (nums .u8 ys).toArray) g ys := setRow_heap W g _ _ 5 _ h
theorem Buf.below {W W' : World} {g : Nat} {xs : List Int} (h : Buf W g xs) (hb : Below W.heap.size W W') : Buf W' g xs := by
  have hlt : g < W.heap.size := by
    rcases Nat.lt_or_ge g W.heap.size with h' | h'
    · exact h'
    · unfold Buf at h
      rw [Array.getElem?_eq_none h'] at h
      cases h
  unfold Buf
  rw [hb.block g hlt]
  exact h
theorem grown_setRow {w W : World} {g : Nat} (h : w.grownBy W (some g)) (cs : Array Value) : w.grownBy (W.setRow g cs) (some g) :=
  ⟨h.os, h.tape, h.output, by rw [setRow_size]; exact h.size, fun k hk hne => (setRow_other W g k cs (fun e => hne (by rw [e]))).trans (h.block k hk hne)⟩
/-- What the reference's loop over a number's bytes holds at each round's head. -/
def WordAt (v : Nat) (w : World) (q u i : Value) (wr : World) : Prop := ∃ k : Nat, k ≤ 4 ∧ i = .int .i64 (k : Int) ∧ q = .int .u32 ((v / 256 ^ k : Nat) : Int) ∧ Kd.R (Kd.int .u8) 5 wr w.heap.size (fun _ => True) u ((le4 v).take k) ∧ Below w.heap.size w wr
def cells4 (v : Nat) : List Int := [(v : Int) % 256, (v : Int) / 256 % 256, (v : Int) / 65536 % 256, (v : Int) / 16777216]
theorem cells4_eq (v : Nat) (h : v < 4294967296) : cells4 v = le4 v := by
  unfold cells4 le4
  rw [show (v : Int) / 16777216 = ((v / 16777216 % 256 : Nat) : Int) from by omega]
  rfl
set_option maxHeartbeats 1000000 in
set_option maxRecDepth 100000 in
theorem put_c (g n : Nat) (v : Nat) (xs : List Int) (w : World) (hv : v < 4294967296) (hb : Buf w g xs) (hl : xs.length = 160) (hn : n + 4 ≤ 160) :
    Calls Try.prog 29 #[.slice (some ⟨g, 0, none⟩) n 160, .int .u32 (v : Int)] w fun e w' => e = .returned (.slice (some ⟨g, 0, none⟩) (n + 4) 160) ∧ Buf w' g (splice xs n (le4 v)) ∧ w.grownBy w' (some g) := by
  have HB := Aside0.mk hb
  have HL := Aside0.mk hl
  clear hb hl
  go_enter Try.func29, Try.ntmps29
  go_wp2_with (at_builtin; refine append_buf rfl (.tmp 5) (.tmp 17) rfl g n 160 xs (cells4 v) ⟨w.heap.size, 0, none⟩ 4 4 rfl rfl ?b ?c ?r ?k ?_; (case b => exact HB.out.below (below_alloc (Below.refl _ _) _)); (case c => exact C_lit w 5 (0, 0) .u8 (cells4 v) (by simp [cells4])); (case r => exact hn); (case k => exact Nat.le_of_eq HL.out.symm))
  go_ret
  refine ⟨rfl, ?_, ?_⟩
  · rw [← cells4_eq v hv]
    exact (HB.out.below (below_alloc (Below.refl _ _) _)).set _
  · exact grown_setRow (World.grownBy_alloc w _ _) _
set_option maxHeartbeats 1000000 in
set_option maxRecDepth 100000 in
theorem sum_of (A : Option Addr) (n c : Nat) (xs : List Int) (w : World) (hn : n = xs.length) (hr : (Kd.int .u8).C w A n xs) (hc : n ≤ c) (hb : Bytes xs) :
    Calls Try.prog 30 #[.slice A n c] w fun e w' => e = .returned (.int .u32 ((rsum xs : Nat) : Int)) ∧ Below w.heap.size w w' := by
  have HR := Aside0.mk hr
  have HB := Aside0.mk hb
  have HN := Aside0.mk hn
  have HC := Aside0.mk hc
  clear hr hb hn hc
  go_enter Try.func30, Try.ntmps30
  go_wp2_with (fail)
  refine (sum_c _ 1 1 [xs] _ rfl (C_box (n := n) (c := c) HR.out HN.out.symm HC.out) (by intro b hb; rw [List.mem_singleton.1 hb]; exact HB.out)).mono ?_
  rintro e w1 ⟨rfl, hb⟩
  rw [show [xs].flatten = xs by simp]
  have HL := Aside0.mk (below_step (below_alloc (Below.refl _ _) _) hb)
  clear hb
  have HU := Aside0.mk (show rsum xs = if update 0 xs = 4294967295 then 0 else update 0 xs from rfl)
  generalize update 0 xs = u at *
  by_cases hu : u = 4294967295
  · subst hu
    go_wp2
    go_ret
    exact ⟨ret_int (by rw [HU.out]; rfl), HL.out⟩
  · have hq : ((u : Int) != 4294967295) = true := by rw [bne_iff_ne]; omega
    have HX := Aside0.mk hu
    clear hu
    go_wp2
    go_ret
    exact ⟨ret_int (by rw [HU.out, if_neg HX.out]), HL.out⟩
set_option maxHeartbeats 1000000 in
set_option maxRecDepth 100000 in
theorem ref_sum_of (A : Option Addr) (n c : Nat) (xs : List Int) (w : World) (hn : n = xs.length) (hr : (Kd.int .u8).C w A n xs) (hb : Bytes xs) :
    Calls Try.prog 26 #[.slice A n c] w fun e w' => e = .returned (.int .u32 ((rsum xs : Nat) : Int)) ∧ Below w.heap.size w w' := by
  have HR := Aside0.mk hr
  have HB := Aside0.mk hb
  have HN := Aside0.mk hn
  clear hr hb hn
  go_enter Try.func26, Try.ntmps26
  go_wp2_with (fail)
  refine (ref_update_c A n c 0 xs _ (by decide) HN.out HR.out HB.out).mono ?_
  rintro e w1 ⟨rfl, hb⟩
  have HL := Aside0.mk hb
  clear hb
  have HU := Aside0.mk (show rsum xs = if update 0 xs = 4294967295 then 0 else update 0 xs from rfl)
  generalize update 0 xs = u at *
  by_cases hu : u = 4294967295
  · subst hu
    go_wp2
    go_ret
    exact ⟨ret_int (by rw [HU.out]; rfl), HL.out⟩
  · have hq : ((u : Int) == 4294967295) = false := by rw [beq_eq_false_iff_ne]; omega
    have HX := Aside0.mk hu
    clear hu
    go_wp2
    go_ret
    exact ⟨ret_int (by rw [HU.out, if_neg HX.out]), HL.out⟩
set_option maxHeartbeats 1000000 in
set_option maxRecDepth 100000 in
theorem word_c (v : Nat) (w : World) (hv : v < 4294967296) :
    Calls Try.prog 31 #[.int .u32 (v : Int)] w fun e w' => ∃ u : Value, e = .returned u ∧ Kd.R (Kd.int .u8) 5 w' w.heap.size (fun _ => True) u (le4 v) ∧ Below w.heap.size w w' := by
  go_enter Try.func31, Try.ntmps31
  go_wp2
  go_loopw [0, 3, 4] (fun q u i wr => WordAt v w q u i wr) (fun _ _ i _ => 4 - (intOf i).toNat)
  case atStart => exact ⟨0, by omega, rfl, by simp, Kd.R_nil _ _ _ _ _, Below.refl _ _⟩
  case round =>
    obtain ⟨k, hk, rfl, rfl, ho, hb⟩ := hrel
    have HO := Aside0.mk ho
    have HB := Aside0.mk hb
    clear ho hb
    by_cases hlt : k < 4
    · have hq : v / 256 ^ k < 4294967296 := Nat.lt_of_le_of_lt (Nat.div_le_self _ _) hv
      have HQ := Aside0.mk (show v / 256 ^ (k + 1) = v / 256 ^ k / 256 by rw [Nat.pow_succ, Nat.div_div_eq_div_mul])
      have HT := Aside0.mk (show (le4 v).take (k + 1) = (le4 v).take k ++ [((v / 256 ^ k % 256 : Nat) : Int)] by
        rcases (show k = 0 ∨ k = 1 ∨ k = 2 ∨ k = 3 by omega) with rfl | rfl | rfl | rfl <;> simp [le4])
      have HTL := Aside0.mk (show ((le4 v).take k).length ≤ 4 by rw [List.length_take, le4_len]; omega)
      generalize v / 256 ^ k = q at *
      go_wp2_with (at_builtin; refine print_append_num (w0 := w) w.heap.size rfl (.tmp 9) (.tmp 13) 24 5 .u8 1 rfl Try.underlying24 info5 (by decide) u3 ((le4 v).take k) ((q : Int) % 256) rfl rfl ?aO ?aB ?aS ?aL ?_; go_loud (case aO => exact Kd.own_of_R HO.out); go_loud (case aB => exact HB.out); go_loud (case aS => exact HB.out.size); go_loud (case aL => have := HTL.out; omega); intro v9 w9 ho hb hg hat; have HO9 := Aside0.mk ho; have HB9 := Aside0.mk hb; clear ho hb hg hat)
      go_roundw
      case measure => simp [intOf]; omega
      case rel => exact ⟨k + 1, by omega, by go_num, by rw [HQ.out]; exact val_int (by omega), by rw [HT.out, show ((q % 256 : Nat) : Int) = (q : Int) % 256 from by omega]; exact Kd.R_of_own (by simpa [nums, encs] using HO9.out) (fun _ _ => trivial), HB9.out⟩
    · obtain rfl : k = 4 := by omega
      have HTK := Aside0.mk (show (le4 v).take 4 = le4 v from rfl)
      go_wp2
      go_ret
      exact ⟨_, rfl, by rw [← HTK.out]; exact HO.out, HB.out⟩
end Go.Proofs.Ytjblklejjemdhaa.Krec
