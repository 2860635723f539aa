/- The record's Encode, walked: refused where it is not right; else its bytes, in a row of its own. -/
import Derived.Test.YtjblklejjemdhaaKrecC
import Derived.Laws.CopyOwn
namespace Go.Proofs.Ytjblklejjemdhaa.Krec
set_option linter.unusedVariables false
set_option linter.unusedSimpArgs false
open Go.RowKit Go.Proofs.YtjblklejjemdhaaW.PrintWords Go.Proofs.YtjblklejjemdhaaW.PrintLast Go.Proofs.YtjblklejjemdhaaW.PrintMore Kbase Kcrc
theorem size5 : (Try.prog.info? 5).map (·.size) = some 1 := by kernel_rfl
/-- Bytes, and zeros behind them up to 160. -/
def pad (hs : List Int) : List Int := hs ++ List.replicate (160 - hs.length) 0
theorem pad_len (hs : List Int) (h : hs.length ≤ 160) : (pad hs).length = 160 := by
  unfold pad
  rw [List.length_append, List.length_replicate]
  omega
theorem splice_pad (hs ys : List Int) (n : Nat) (hn : n = hs.length) (h : hs.length + ys.length ≤ 160) : splice (pad hs) n ys = pad (hs ++ ys) := by
  subst hn
  unfold splice pad
  rw [List.take_left, List.drop_append, List.drop_replicate]
  simp only [List.length_append]
  rw [List.drop_eq_nil_of_le (by omega), List.nil_append]
  congr 2
  omega
def fld (s f b m : Nat) : Nat → Nat
  | 0 => 827216706
  | 1 => s
  | 2 => f
  | 3 => b
  | _ => m
def heads (s f b m : Nat) : Nat → List Int
  | 0 => []
  | k + 1 => heads s f b m k ++ le4 (fld s f b m k)
/-- What the loop over the numbers holds at each round's head. -/
def EncAt (s f b m g : Nat) (W2 : World) (v i : Value) (wr : World) : Prop := ∃ k : Nat, k ≤ 5 ∧ i = .int .i64 (k : Int) ∧ v = .slice (some ⟨g, 0, none⟩) (4 * k) 160 ∧ Buf wr g (pad (heads s f b m k)) ∧ W2.grownBy wr (some g)
theorem heads_len (s f b m : Nat) : ∀ k, (heads s f b m k).length = 4 * k
  | 0 => rfl
  | k + 1 => by
    unfold heads
    rw [List.length_append, heads_len s f b m k, le4_len]
    omega
theorem fld_lt {s f b m : Nat} (hs : s < 4294967296) (hf : f < 4294967296) (hb : b < 4294967296) (hm : m < 4294967296) (k : Nat) : fld s f b m k < 4294967296 := by
  match k with
  | 0 => exact (show (827216706 : Nat) < 4294967296 from by decide)
  | 1 => exact hs
  | 2 => exact hf
  | 3 => exact hb
  | k + 4 => exact hm
theorem head_eq (s f b m p d n : Nat) : head s f b m p d n = heads s f b m 5 ++ [(p : Int), (n : Int) % 256, 0, 0] ++ le4 d := by
  unfold head
  rw [show (n : Int) % 256 = ((n % 256 : Nat) : Int) from by omega]
  rfl
theorem enc_eq (s f b m p d : Nat) (xs : List Int) (h : xs.length ≤ 128) : splice (splice (pad (head s f b m p d xs.length)) 28 xs) 156 (le4 (rsum (body s f b m p d xs))) = enc s f b m p d xs := by
  rw [splice_pad _ _ 28 rfl (by rw [head_len]; omega)]
  have e : pad (head s f b m p d xs.length ++ xs) = body s f b m p d xs ++ [0, 0, 0, 0] := by
    unfold pad body
    rw [List.length_append, head_len, show 160 - (28 + xs.length) = (128 - xs.length) + 4 from by omega, ← List.replicate_append_replicate]
    simp only [List.append_assoc]
    rfl
  have hl := body_len s f b m p d xs h
  rw [e]
  unfold splice enc
  rw [← hl, List.take_left, le4_len, List.drop_append, List.drop_eq_nil_of_le (by omega), List.nil_append, show (body s f b m p d xs).length + 4 - (body s f b m p d xs).length = 4 from by omega]
  simp
theorem body_eq (s f b m p d : Nat) (xs : List Int) (h : xs.length ≤ 128) : (splice (pad (head s f b m p d xs.length)) 28 xs).take 156 = body s f b m p d xs := by
  rw [splice_pad _ _ 28 rfl (by rw [head_len]; omega)]
  have hl := body_len s f b m p d xs h
  have e : pad (head s f b m p d xs.length ++ xs) = body s f b m p d xs ++ [0, 0, 0, 0] := by
    unfold pad body
    rw [List.length_append, head_len, show 160 - (28 + xs.length) = (128 - xs.length) + 4 from by omega, ← List.replicate_append_replicate]
    simp only [List.append_assoc]
    rfl
  rw [e, ← hl, List.take_left]
theorem nums_one (k : IntKind) (xs : List Int) : ∀ v ∈ nums k xs, v.oneCell' = true := fun v hv => by
  simp only [nums, List.mem_map] at hv
  obtain ⟨x, _, rfl⟩ := hv
  rfl
theorem copy_src {W : World} {A : Option Addr} {n : Nat} {xs : List Int} (h : (Kd.int .u8).C W A n xs) (hn : n = xs.length) (h0 : 0 < xs.length) : ∃ ad, A = some ad ∧ ∀ j v, (nums .u8 xs)[j]? = some v → W.cell? (ad.add j) = some v := by
  obtain ⟨ad, e, _⟩ := C_at h 0 (by omega) h0
  refine ⟨ad, e, fun j v hj => ?_⟩
  have hjl : j < xs.length := by have := (List.getElem?_eq_some_iff.1 hj).1; rwa [nums_length] at this
  obtain ⟨ad', e', hc⟩ := C_at h j (by omega) hjl
  rw [e] at e'
  cases e'
  rw [hc]
  simp only [nums, List.getElem?_map, List.getElem?_eq_getElem hjl, Option.map_some, Option.some.injEq] at hj
  rw [hj]
theorem buf_splice {W : World} {g n : Nat} {xs ys : List Int} (h : W.heap[g]? = some (.cells (Go.splice (nums .u8 xs) n (nums .u8 ys)).toArray 5 (0, 0))) : Buf W g (splice xs n ys) := by
  unfold Buf
  rw [h]
  unfold splice Go.splice
  simp [nums]
theorem Buf.R {W : World} {g base : Nat} {xs : List Int} (h : Buf W g xs) (hb : base ≤ g) (hm : xs.length ≤ 1000000) : (Kd.int .u8).R 5 W base (fun _ => True) (.slice (some ⟨g, 0, none⟩) xs.length xs.length) xs := by
  refine Kd.R_of_own ⟨by simp [encs], .inr ⟨g, xs.length, _, rfl, hb, h, Nat.le_refl _, by unfold maxLen; omega, by simp [nums], ?_⟩⟩ (fun _ _ => trivial)
  simp only [Nat.mul_one]
  rw [List.take_of_length_le (by simp [nums])]
  rfl
theorem run_make160 (W : World) : (Instr.makeSlice 24 (.int .i64 0) (.int .i64 160)).run Try.prog W = .ok (.slice (some ⟨W.heap.size, 0, none⟩) 0 160) (W.alloc (.cells (nums .u8 (pad [])).toArray 5)) := by kernel_rfl
section
variable {ops : Array Oper} {rest : List Oper} {o : Oper} {a : Act} {Q : Exit → Act → World → Prop} {W : World}
theorem make160 (N : Tmp) (hd : o.dst = some N) (hgd : o.guard = none) (x y : Operand) (ho : o.op = .makeSlice 24 x y) (hx : a.eval x = .int .i64 0) (hy : a.eval y = .int .i64 160)
    (h : wpList Try.prog ops Q rest (a.put (some N) (.slice (some ⟨W.heap.size, 0, none⟩) 0 160)) (W.alloc (.cells (nums .u8 (pad [])).toArray 5))) : wpList Try.prog ops Q (o :: rest) a W := by
  rw [← hd] at h
  refine Kd.event_run hgd ?_ h
  unfold execOp
  simp only [ho, hx, hy, Sem.run_bind, run_make160]
  rfl
end
set_option maxHeartbeats 1000000 in
set_option maxRecDepth 100000 in
theorem encode_bad (s f b m p d : Nat) (A : Option Addr) (n c : Nat) (w : World) (hri : right b p d n = false) :
    Calls Try.prog 19 #[.agg #[.int .u32 (s : Int), .int .u32 (f : Int), .int .u32 (b : Int), .int .u32 (m : Int), .int .u8 (p : Int), .int .u32 (d : Int), .slice A n c]] w fun e w' => e = .returned (.tuple #[.slice none 0 0, .int .i64 1]) ∧ Below w.heap.size w w' := by
  go_enter Try.func19, Try.ntmps19
  go_wp2_with (fail)
  refine (right_c s f b m p d A n c _).mono ?_
  rintro e w1 ⟨rfl, hb1⟩
  rw [hri]
  have HB := Aside0.mk (below_step (below_alloc (Below.refl _ _) _) hb1)
  clear hb1 hri
  go_wp2
  go_ret2
  exact ⟨rfl, HB.out⟩
set_option maxHeartbeats 4000000 in
set_option maxRecDepth 100000 in
theorem encode_ok (s f b m p d : Nat) (A : Option Addr) (n c : Nat) (xs : List Int) (w : World) (hs : s < 4294967296) (hf : f < 4294967296) (hb : b < 4294967296) (hm : m < 4294967296) (hp : p < 256) (hd : d < 4294967296) (hn : n = xs.length) (hr : (Kd.int .u8).C w A n xs) (hc : n ≤ c) (hby : Bytes xs) (hri : right b p d n = true) :
    Calls Try.prog 19 #[.agg #[.int .u32 (s : Int), .int .u32 (f : Int), .int .u32 (b : Int), .int .u32 (m : Int), .int .u8 (p : Int), .int .u32 (d : Int), .slice A n c]] w fun e w' => ∃ v, e = .returned (.tuple #[v, .int .i64 0]) ∧ Kd.R (Kd.int .u8) 5 w' w.heap.size (fun _ => True) v (enc s f b m p d xs) ∧ Below w.heap.size w w' := by
  have HR := Aside0.mk hr
  have HC := Aside0.mk hc
  have HBY := Aside0.mk hby
  have HN := Aside0.mk hn
  have HN8 := Aside0.mk (show n ≤ 128 by simp [right] at hri; omega)
  have HRI := Aside0.mk hri
  clear hr hc hby hn hri
  go_enter Try.func19, Try.ntmps19
  go_wp2_with (fail)
  refine (right_c s f b m p d A n c _).mono ?_
  rintro e w1 ⟨rfl, hb1⟩
  rw [HRI.out]
  have HB := Aside0.mk (below_step (below_alloc (Below.refl _ _) _) hb1)
  have HX := Aside0.mk ((hb1.block w.heap.size (by simp)).trans (heap_alloc_new w (.cells #[.int .u32 (s : Int), .int .u32 (f : Int), .int .u32 (b : Int), .int .u32 (m : Int), .int .u8 (p : Int), .int .u32 (d : Int), .slice A n c] 37)))
  clear hb1
  have hx0 : w1.cell? ⟨w.heap.size, 0, none⟩ = some (.int .u32 (s : Int)) := cell_of_row w1 w.heap.size 0 _ 37 (0, 0) HX.out
  have hx1 : w1.cell? ⟨w.heap.size, 1, none⟩ = some (.int .u32 (f : Int)) := cell_of_row w1 w.heap.size 1 _ 37 (0, 0) HX.out
  have hx2 : w1.cell? ⟨w.heap.size, 2, none⟩ = some (.int .u32 (b : Int)) := cell_of_row w1 w.heap.size 2 _ 37 (0, 0) HX.out
  have hx3 : w1.cell? ⟨w.heap.size, 3, none⟩ = some (.int .u32 (m : Int)) := cell_of_row w1 w.heap.size 3 _ 37 (0, 0) HX.out
  have hlt1 : w.heap.size < w1.heap.size := World.block_lt_of_cell? w1 _ hx0
  go_wp2_with ((with_reducible refine gate_dst (N := 10) rfl ?_); refine make160 10 rfl rfl _ _ rfl rfl rfl ?_)
  have hn1 : (w1.alloc (.cells (nums .u8 (pad [])).toArray 5)).heap.size = w1.heap.size + 1 := by simp
  have HX2 := Aside0.mk ((blk_old (w1.alloc (.cells (nums .u8 (pad [])).toArray 5)) (.cells #[.int .u32 827216706, .int .u32 (s : Int), .int .u32 (f : Int), .int .u32 (b : Int), .int .u32 (m : Int)] 30) w.heap.size (by omega)).trans ((blk_old w1 (.cells (nums .u8 (pad [])).toArray 5) w.heap.size hlt1).trans HX.out))
  have HBUF0 := Aside0.mk (show Buf ((w1.alloc (.cells (nums .u8 (pad [])).toArray 5)).alloc (.cells #[.int .u32 827216706, .int .u32 (s : Int), .int .u32 (f : Int), .int .u32 (b : Int), .int .u32 (m : Int)] 30)) w1.heap.size (pad []) from heap_alloc2_old w1 _ _)
  have HNB := Aside0.mk (heap_alloc2_new w1 (.cells (nums .u8 (pad [])).toArray 5) (.cells #[.int .u32 827216706, .int .u32 (s : Int), .int .u32 (f : Int), .int .u32 (b : Int), .int .u32 (m : Int)] 30))
  have HB2 := Aside0.mk (below_alloc (below_alloc HB.out (.cells (nums .u8 (pad [])).toArray 5)) (.cells #[.int .u32 827216706, .int .u32 (s : Int), .int .u32 (f : Int), .int .u32 (b : Int), .int .u32 (m : Int)] 30))
  have HG := Aside0.mk (Nat.le_of_lt hlt1)
  have HNE := Aside0.mk (show w.heap.size ≠ w1.heap.size by omega)
  have HSZ := Aside0.mk (show ((w1.alloc (.cells (nums .u8 (pad [])).toArray 5)).alloc (.cells #[.int .u32 827216706, .int .u32 (s : Int), .int .u32 (f : Int), .int .u32 (b : Int), .int .u32 (m : Int)] 30)).heap.size = w1.heap.size + 2 by simp)
  clear hx0 hx1 hx2 hx3 hn1 hlt1 HX HB
  generalize (w1.alloc (.cells (nums .u8 (pad [])).toArray 5)).alloc (.cells #[.int .u32 827216706, .int .u32 (s : Int), .int .u32 (f : Int), .int .u32 (b : Int), .int .u32 (m : Int)] 30) = W2 at *
  generalize w1.heap.size = g at *
  go_loopw [4, 21] (fun v i wr => EncAt s f b m g W2 v i wr) (fun _ i _ => 5 - (intOf i).toNat)
  case atStart => exact ⟨0, by omega, rfl, rfl, HBUF0.out, World.grownBy.refl _ _⟩
  case round =>
    obtain ⟨k, hk, rfl, rfl, hbuf, hgr⟩ := hrel
    have HBUF := Aside0.mk hbuf
    have HGR := Aside0.mk hgr
    clear hbuf hgr
    by_cases hlt : k < 5
    · have hnk : wr.cell? ⟨g + 1, k, none⟩ = some (.int .u32 ((fld s f b m k : Nat) : Int)) := by
        rw [cell_of_row wr (g + 1) k _ 30 (0, 0) ((HGR.out.block (g + 1) (by rw [HSZ.out]; omega) (fun e => by have := Option.some.inj e; omega)).trans HNB.out)]
        rcases (show k = 0 ∨ k = 1 ∨ k = 2 ∨ k = 3 ∨ k = 4 by omega) with rfl | rfl | rfl | rfl | rfl <;> rfl
      have HF := Aside0.mk (fld_lt hs hf hb hm k)
      have HS := Aside0.mk (show splice (pad (heads s f b m k)) (4 * k) (le4 (fld s f b m k)) = pad (heads s f b m (k + 1)) from splice_pad _ _ _ (heads_len _ _ _ _ _).symm (by rw [heads_len, le4_len]; omega))
      generalize fld s f b m k = v at *
      go_wp2_with (fail)
      refine (put_c g (4 * k) v (pad (heads s f b m k)) _ HF.out HBUF.out (pad_len _ (by rw [heads_len]; omega)) (by omega)).mono ?_
      rintro e w3 ⟨rfl, hbuf, hgr⟩
      rw [HS.out] at hbuf
      have HBUF3 := Aside0.mk hbuf
      have HGR3 := Aside0.mk (World.grownBy.trans HGR.out hgr)
      clear hbuf hgr
      go_wp2_with (fail)
      go_roundw
      case measure => simp [intOf]; omega
      case rel => exact ⟨k + 1, by omega, by go_num, rfl, HBUF3.out, HGR3.out⟩
    · obtain rfl : k = 5 := by omega
      have HX := Aside0.mk ((HGR.out.block w.heap.size (by rw [HSZ.out]; have := HG.out; omega) (fun e => HNE.out (Option.some.inj e))).trans HX2.out)
      have HLT := Aside0.mk (show w.heap.size < wr.heap.size by have h1 := HGR.out.size; have h2 := HSZ.out; have h3 := HG.out; omega)
      have HBW := Aside0.mk (show Below w.heap.size w wr from HB2.out.grown HGR.out (by rw [HSZ.out]; have := HG.out; omega) (fun k hk => by cases hk; exact HG.out))
      go_wp2_with (fail)
      refine start_ (n := 13) (S := (fun w' => w'.heap[w.heap.size]? = some (.cells #[.int .u32 (s : Int), .int .u32 (f : Int), .int .u32 (b : Int), .int .u32 (m : Int), .int .u8 (p : Int), .int .u32 (d : Int), .slice A n c] 37 (0, 0)))) (ds := []) #[false, false, false, false, false, false, false, false, false, false, false, false, false] (by kernel_rfl) rfl rfl HX.out (fun hHeld => ?_)
      refine pure_ (i := 0) (N := some 29) (v := ?_) (a' := ?_) #[true, false, false, false, false, false, false, false, false, false, false, false, false] rfl rfl (by kernel_rfl) (fun _ _ _ h => h) (Or.inl ⟨by rfl, ?_⟩) ?_ ?_
      rotate_left
      · intro w'
        go_simp
        with_reducible rfl
      rotate_left
      · simp only [Act.put, List.setIfInBounds_toArray, List.set_cons_zero, List.set_cons_succ, i64_w, i32_w]
        rfl
      refine pure_ (i := 1) (N := some 30) (v := ?_) (a' := ?_) #[true, true, false, false, false, false, false, false, false, false, false, false, false] rfl rfl (by kernel_rfl) (fun _ _ _ h => h) (Or.inl ⟨by rfl, ?_⟩) ?_ ?_
      rotate_left
      · intro w'
        go_simp
        with_reducible rfl
      rotate_left
      · simp only [Act.put, List.setIfInBounds_toArray, List.set_cons_zero, List.set_cons_succ, i64_w, i32_w]
        rfl
      refine take_ (i := 2) (N := some 31) (v := ?_) (a' := ?_) #[true, true, true, false, false, false, false, false, false, false, false, false, false] rfl rfl (by kernel_rfl) (fun _ _ _ h => h) (Or.inl ⟨by rfl, ?_⟩) hHeld ?_ ?_
      rotate_left
      · intro w' hw'
        have q0 := cell_of_row w' w.heap.size 4 _ 37 (0, 0) hw'
        simp only [List.getElem?_toArray, List.getElem?_cons_succ, List.getElem?_cons_zero] at q0
        clear hw'
        go_simp
        with_reducible rfl
      rotate_left
      · simp only [Act.put, List.setIfInBounds_toArray, List.set_cons_zero, List.set_cons_succ, i64_w, i32_w]
        rfl
      refine pure_ (i := 3) (N := some 32) (v := ?_) (a' := ?_) #[true, true, true, true, false, false, false, false, false, false, false, false, false] rfl rfl (by kernel_rfl) (fun _ _ _ h => h) (Or.inl ⟨by rfl, ?_⟩) ?_ ?_
      rotate_left
      · intro w'
        go_simp
        with_reducible rfl
      rotate_left
      · simp only [Act.put, List.setIfInBounds_toArray, List.set_cons_zero, List.set_cons_succ, i64_w, i32_w]
        rfl
      refine take_ (i := 4) (N := some 33) (v := ?_) (a' := ?_) #[true, true, true, true, true, false, false, false, false, false, false, false, false] rfl rfl (by kernel_rfl) (fun _ _ _ h => h) (Or.inl ⟨by rfl, ?_⟩) hHeld ?_ ?_
      rotate_left
      · intro w' hw'
        have q0 := cell_of_row w' w.heap.size 6 _ 37 (0, 0) hw'
        simp only [List.getElem?_toArray, List.getElem?_cons_succ, List.getElem?_cons_zero] at q0
        clear hw'
        go_simp
        with_reducible rfl
      rotate_left
      · simp only [Act.put, List.setIfInBounds_toArray, List.set_cons_zero, List.set_cons_succ, i64_w, i32_w]
        rfl
      refine pure_ (i := 5) (N := some 34) (v := ?_) (a' := ?_) #[true, true, true, true, true, true, false, false, false, false, false, false, false] rfl rfl (by kernel_rfl) (fun _ _ _ h => h) (Or.inl ⟨by rfl, ?_⟩) ?_ ?_
      rotate_left
      · intro w'
        go_simp
        with_reducible rfl
      rotate_left
      · simp only [Act.put, List.setIfInBounds_toArray, List.set_cons_zero, List.set_cons_succ, i64_w, i32_w]
        rfl
      refine pure_ (i := 6) (N := some 35) (v := ?_) (a' := ?_) #[true, true, true, true, true, true, true, false, false, false, false, false, false] rfl rfl (by kernel_rfl) (fun _ _ _ h => h) (Or.inl ⟨by rfl, ?_⟩) ?_ ?_
      rotate_left
      · intro w'
        go_simp
        with_reducible rfl
      rotate_left
      · simp only [Act.put, List.setIfInBounds_toArray, List.set_cons_zero, List.set_cons_succ, i64_w, i32_w]
        rfl
      refine pure_ (i := 9) (N := some 38) (v := ?_) (a' := ?_) #[true, true, true, true, true, true, true, false, false, true, false, false, false] rfl rfl (by kernel_rfl) (fun _ _ _ h => h) (Or.inl ⟨by rfl, ?_⟩) ?_ ?_
      rotate_left
      · intro w'
        go_simp
        with_reducible rfl
      rotate_left
      · simp only [Act.put, List.setIfInBounds_toArray, List.set_cons_zero, List.set_cons_succ, i64_w, i32_w]
        rfl
      refine take_ (i := 10) (N := some 39) (v := ?_) (a' := ?_) #[true, true, true, true, true, true, true, false, false, true, true, false, false] rfl rfl (by kernel_rfl) (fun _ _ _ h => h) (Or.inl ⟨by rfl, ?_⟩) hHeld ?_ ?_
      rotate_left
      · intro w' hw'
        have q0 := cell_of_row w' w.heap.size 5 _ 37 (0, 0) hw'
        simp only [List.getElem?_toArray, List.getElem?_cons_succ, List.getElem?_cons_zero] at q0
        clear hw'
        go_simp
        with_reducible rfl
      rotate_left
      · simp only [Act.put, List.setIfInBounds_toArray, List.set_cons_zero, List.set_cons_succ, i64_w, i32_w]
        rfl
      refine one_ (i := 7) (N := some 36) #[true, true, true, true, true, true, true, true, false, true, true, false, false] rfl rfl (by kernel_rfl) (by decide) (fun K hK => ?_)
      refine value_ (w1 := ?_) (v := ?_) (by rfl) rfl ?_ ?_
      rotate_left 2
      · go_simp
        constructor
        · rfl
        · rfl
      refine hK.out _ _ ((blk_old _ _ _ HLT.out).trans hHeld) (fun hHeld => ?_)
      clear hK K
      refine norm_ (a' := ?_) ?_ ?_
      rotate_left
      · show Act.put _ (some 36) _ = _
        simp only [Act.put, List.setIfInBounds_toArray, List.set_cons_zero, List.set_cons_succ, i64_w, i32_w]
        rfl
      refine one_ (i := 8) (N := some 37) #[true, true, true, true, true, true, true, true, true, true, true, false, false] rfl rfl (by kernel_rfl) (by decide) (fun K hK => ?_)
      refine value_ (by rfl) rfl (event_append (.tmp 29) (.tmp 36) rfl g 20 160 (pad (heads s f b m 5)) [(p : Int), (n : Int) % 256, 0, 0] ⟨wr.drew.heap.size, 0, none⟩ 4 4 rfl rfl (HBUF.out.below (below_alloc (below_drew1 (Below.refl _ _)) _)) (C_lit wr.drew 5 (0, 0) .u8 [(p : Int), (n : Int) % 256, 0, 0] (by simp)) (by decide) (by rw [pad_len _ (Nat.le_trans (Nat.le_of_eq (heads_len s f b m 5)) (by decide))]; exact Nat.le_refl _)) ?_
      refine hK.out _ _ ((setRow_other _ _ _ _ HNE.out).trans hHeld) (fun hHeld => ?_)
      clear hK K
      refine norm_ (a' := ?_) ?_ ?_
      rotate_left
      · show Act.put _ (some 37) _ = _
        simp only [Act.put, List.setIfInBounds_toArray, List.set_cons_zero, List.set_cons_succ, i64_w, i32_w]
        rfl
      refine one_ (i := 11) (N := some 40) #[true, true, true, true, true, true, true, true, true, true, true, true, false] rfl rfl (by kernel_rfl) (by decide) (fun K hK => ?_)
      refine goes_ Try.func29 (by kernel_rfl) rfl #[.slice (some ⟨g, 0, none⟩) 24 160, .int .u32 (d : Int)] (by rfl) rfl rfl (by (try simp only [List.map_toArray, List.map_cons, List.map_nil]); first | done | rfl) ?_
      refine (put_c g 24 d (splice (pad (heads s f b m 5)) 20 [(p : Int), (n : Int) % 256, 0, 0]) _ hd ((HBUF.out.below (below_alloc (below_drew1 (Below.refl _ _)) _)).set _) (by rw [splice_len _ _ _ (by rw [pad_len _ (Nat.le_trans (Nat.le_of_eq (heads_len s f b m 5)) (by decide))]; simp), pad_len _ (Nat.le_trans (Nat.le_of_eq (heads_len s f b m 5)) (by decide))]) (by decide)).mono ?_
      rintro e w3 ⟨rfl, hbuf, hgr⟩
      refine ⟨_, rfl, ?_⟩
      have HBUF3 := Aside0.mk hbuf
      have HGR3 := Aside0.mk (World.grownBy.trans (grown_setRow (World.grownBy_alloc wr.drew (.cells #[.int .u8 (p : Int), .int .u8 ((n : Int) % 256), .int .u8 0, .int .u8 0] 5) (some g)) (nums .u8 (splice (pad (heads s f b m 5)) 20 [(p : Int), (n : Int) % 256, 0, 0])).toArray) hgr)
      clear hbuf hgr
      refine hK.out _ _ ((HGR3.out.block _ HLT.out (fun e => HNE.out (Option.some.inj e))).trans HX.out) (fun hHeld => ?_)
      clear hK K
      refine norm_ (a' := ?_) ?_ ?_
      rotate_left
      · show Act.put _ (some 40) _ = _
        simp only [Act.put, List.setIfInBounds_toArray, List.set_cons_zero, List.set_cons_succ, i64_w, i32_w]
        rfl
      refine pure_ (i := 12) (N := some 4) (v := ?_) (a' := ?_) #[true, true, true, true, true, true, true, true, true, true, true, true, true] rfl rfl (by kernel_rfl) (fun _ _ _ h => h) (Or.inl ⟨by rfl, ?_⟩) ?_ ?_
      rotate_left
      · intro w'
        go_simp
        with_reducible rfl
      rotate_left
      · simp only [Act.put, List.setIfInBounds_toArray, List.set_cons_zero, List.set_cons_succ, i64_w, i32_w]
        rfl
      refine done_ (by kernel_rfl) ?_
      have HBUF4 := Aside0.mk (show Buf w3 g (pad (head s f b m p d n)) by
        have h := HBUF3.out
        rw [splice_pad _ _ 20 (heads_len s f b m 5).symm (by rw [heads_len]; simp), splice_pad _ _ 24 (by rw [List.length_append, heads_len]; rfl) (by rw [List.length_append, heads_len, le4_len]; simp), ← head_eq] at h
        exact h)
      have HX3 := Aside0.mk hHeld
      have HB4 := Aside0.mk (show Below w.heap.size w w3.drew from below_drew1 ((below_drew1 HBW.out).grown HGR3.out (Nat.le_of_lt HLT.out) (fun k hk => by cases hk; exact HG.out)))
      clear hHeld HBUF3
      go_wp2_with (fail)
      refine start_ (n := 5) (S := (fun w' => w'.heap[w.heap.size]? = some (.cells #[.int .u32 (s : Int), .int .u32 (f : Int), .int .u32 (b : Int), .int .u32 (m : Int), .int .u8 (p : Int), .int .u32 (d : Int), .slice A n c] 37 (0, 0)))) (ds := [4]) #[false, false, false, false, false] (by kernel_rfl) rfl rfl HX3.out (fun hHeld => ?_)
      refine pure_ (i := 0) (N := some 43) (v := ?_) (a' := ?_) #[true, false, false, false, false] rfl rfl (by kernel_rfl) (fun _ _ _ h => h) (Or.inl ⟨by rfl, ?_⟩) ?_ ?_
      rotate_left
      · intro w'
        go_simp
        with_reducible rfl
      rotate_left
      · simp only [Act.put, List.setIfInBounds_toArray, List.set_cons_zero, List.set_cons_succ, i64_w, i32_w]
        rfl
      refine pure_ (i := 1) (N := some 44) (v := ?_) (a' := ?_) #[true, true, false, false, false] rfl rfl (by kernel_rfl) (fun _ _ _ h => h) (Or.inl ⟨by rfl, ?_⟩) ?_ ?_
      rotate_left
      · intro w'
        go_simp
        with_reducible rfl
      rotate_left
      · simp only [Act.put, List.setIfInBounds_toArray, List.set_cons_zero, List.set_cons_succ, i64_w, i32_w]
        rfl
      refine pure_ (i := 2) (N := some 45) (v := ?_) (a' := ?_) #[true, true, true, false, false] rfl rfl (by kernel_rfl) (fun _ _ _ h => h) (Or.inl ⟨by rfl, ?_⟩) ?_ ?_
      rotate_left
      · intro w'
        go_simp
        with_reducible rfl
      rotate_left
      · simp only [Act.put, List.setIfInBounds_toArray, List.set_cons_zero, List.set_cons_succ, i64_w, i32_w]
        rfl
      refine take_ (i := 3) (N := some 46) (v := ?_) (a' := ?_) #[true, true, true, true, false] rfl rfl (by kernel_rfl) (fun _ _ _ h => h) (Or.inl ⟨by rfl, ?_⟩) hHeld ?_ ?_
      rotate_left
      · intro w' hw'
        have q0 := cell_of_row w' w.heap.size 6 _ 37 (0, 0) hw'
        simp only [List.getElem?_toArray, List.getElem?_cons_succ, List.getElem?_cons_zero] at q0
        clear hw'
        go_simp
        with_reducible rfl
      rotate_left
      · simp only [Act.put, List.setIfInBounds_toArray, List.set_cons_zero, List.set_cons_succ, i64_w, i32_w]
        rfl
      refine last_ (i := 4) (N := some 47) #[true, true, true, true, true] rfl rfl (by kernel_rfl) (by decide) (fun K hK => ?_)
      refine step_copy_splice rfl (.tmp 44) (.tmp 46) 24 24 rfl 5 Try.underlying24 size5 (some ⟨g, 28, none⟩) A 128 132 n c rfl rfl g 28 (nums .u8 (pad (head s f b m p d n))) 5 HBUF4.out (nums .u8 xs) (by rw [nums_length, ← HN.out]; exact (Nat.min_eq_left HN8.out).symm) (fun h0 => ⟨rfl, copy_src (Kd.C_below HR.out HB4.out) HN.out (by simpa [nums] using h0)⟩) (by rw [nums_length, nums_length, ← HN.out, pad_len _ (by rw [head_len]; decide)]; have := HN8.out; omega) (nums_one _ _) w.heap.size w HB4.out HG.out ?_
      intro w5 hw5 hb5
      have HBUF5 := Aside0.mk (show Buf w5 g (splice (pad (head s f b m p d n)) 28 xs) from buf_splice hw5)
      have HB5 := Aside0.mk hb5
      clear hw5 hb5
      refine hK.out _ _ ?_
      clear hK K
      refine norm_ (a' := ?_) ?_ ?_
      rotate_left
      · show Act.put _ (some 47) _ = _
        simp only [Act.put, List.setIfInBounds_toArray, List.set_cons_zero, List.set_cons_succ, i64_w, i32_w]
        rfl
      refine done_ (by kernel_rfl) ?_
      have HBD := Aside0.mk (HBUF5.out.C 156 (by rw [splice_len _ _ _ (by rw [pad_len _ (by rw [head_len]; decide), ← HN.out]; have := HN8.out; omega), pad_len _ (by rw [head_len]; decide)]; decide) (by rw [splice_len _ _ _ (by rw [pad_len _ (by rw [head_len]; decide), ← HN.out]; have := HN8.out; omega), pad_len _ (by rw [head_len]; decide)]; decide))
      go_wp2_with (fail)
      have HBE := Aside0.mk (show (splice (pad (head s f b m p d n)) 28 xs).take 156 = body s f b m p d xs by rw [HN.out]; exact body_eq s f b m p d xs (by rw [← HN.out]; exact HN8.out))
      rw [HBE.out] at HBD
      refine (sum_of (some ⟨g, 0, none⟩) 156 160 (body s f b m p d xs) _ (body_len s f b m p d xs (by rw [← HN.out]; exact HN8.out)).symm HBD.out (by decide) (bytes_body hp HBY.out)).mono ?_
      rintro e w6 ⟨rfl, hb6⟩
      have HBUF6 := Aside0.mk (HBUF5.out.below hb6)
      have HB6 := Aside0.mk (below_step HB5.out hb6)
      clear hb6
      go_wp2_with (fail)
      refine (put_c g 156 (rsum (body s f b m p d xs)) _ _ (rsum_lt _) HBUF6.out (by rw [splice_len _ _ _ (by rw [pad_len _ (by rw [head_len]; decide), ← HN.out]; have := HN8.out; omega), pad_len _ (by rw [head_len]; decide)]) (by decide)).mono ?_
      rintro e w7 ⟨rfl, hbuf, hgr⟩
      have HBUF7 := Aside0.mk (show Buf w7 g (enc s f b m p d xs) by
        rw [HN.out, enc_eq s f b m p d xs (by rw [← HN.out]; exact HN8.out)] at hbuf
        exact hbuf)
      have HB7 := Aside0.mk (HB6.out.grown hgr HB6.out.size (fun k hk => by cases hk; exact HG.out))
      have HEL := Aside0.mk (enc_len s f b m p d xs (by rw [← HN.out]; exact HN8.out))
      clear hbuf hgr
      go_wp2_with (fail)
      go_ret2
      refine ⟨_, rfl, ?_, HB7.out⟩
      have h := HBUF7.out.R HG.out (by rw [HEL.out]; decide)
      rw [HEL.out] at h
      exact h
end Go.Proofs.Ytjblklejjemdhaa.Krec
