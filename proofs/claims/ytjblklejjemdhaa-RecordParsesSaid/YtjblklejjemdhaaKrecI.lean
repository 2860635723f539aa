/- Parse of any bytes, Encode of any record, by either side: what they answer. -/
import Derived.Test.YtjblklejjemdhaaKrecH
import Derived.Test.YtjblklejjemdhaaKcrcF
namespace Go.Proofs.Ytjblklejjemdhaa.Krec
set_option linter.unusedVariables false
set_option linter.unusedSimpArgs false
open Go.RowKit Go.Proofs.YtjblklejjemdhaaW.PrintWords Go.Proofs.YtjblklejjemdhaaW.PrintLast Go.Proofs.YtjblklejjemdhaaW.PrintMore Kbase Kcrc
/-- The code of bytes that are no right record's. -/
def code (bs : List Int) : Nat := if bs.length = 160 ∧ num bs 0 = 827216706 ∧ rsum (bs.take 156) ≠ num bs 156 then 8 else 7
def Parsed (bs : List Int) (w : World) (e : Ending) (w' : World) : Prop := ((∃ A n c, e = .returned (.tuple #[.agg (recs (num bs 4) (num bs 8) (num bs 12) (num bs 16) (at_ bs 20) (num bs 24) (.slice A n c)), .int .i64 0]) ∧ (Kd.int .u8).R 5 w' w.heap.size (fun _ => True) (.slice A n c) (init bs) ∧ Good bs) ∨ (e = .returned (.tuple #[.agg zero37, .int .i64 (code bs : Int)]) ∧ ¬ Good bs)) ∧ Below w.heap.size w w'
theorem parse_any (A : Option Addr) (n c : Nat) (bs : List Int) (w : World) (hn : n = bs.length) (hA : n = 160 → ∃ g, A = some ⟨g, 0, none⟩) (hr : (Kd.int .u8).C w A n bs) (hby : Bytes bs) (hc : n ≤ c) :
    Calls Try.prog 25 #[.slice A n c] w (Parsed bs w) := by
  by_cases h : n = 160
  · obtain ⟨g, rfl⟩ := hA h
    subst h
    by_cases h0 : num bs 0 = 827216706
    · by_cases h1 : rsum (bs.take 156) = num bs 156
      · have hcode : code bs = 7 := by unfold code; rw [if_neg (fun h => h.2.2 h1)]
        by_cases h2 : at_ bs 21 ≤ 128
        · refine (parse_deep g c bs w hn.symm hr hby hc h0 h1 h2).mono ?_
          rintro e w' ⟨h | h, hb⟩
          · obtain ⟨v, rfl, ho, hg⟩ := h
            obtain ⟨A1, c1, rfl⟩ := Kd.R_slice ho
            exact ⟨Or.inl ⟨_, _, _, rfl, ho, hg⟩, hb⟩
          · exact ⟨Or.inr ⟨by rw [hcode]; exact h.1, h.2⟩, hb⟩
        · refine (parse_long g c bs w hn.symm hr hby hc h0 h1 (by omega)).mono ?_
          rintro e w' ⟨rfl, hb⟩
          exact ⟨Or.inr ⟨by rw [hcode]; rfl, fun hg => h2 hg.2.2.2.1⟩, hb⟩
      · have hcode : code bs = 8 := by unfold code; rw [if_pos ⟨hn.symm, h0, h1⟩]
        refine (parse_sum g c bs w hn.symm hr hby hc h0 h1).mono ?_
        rintro e w' ⟨rfl, hb⟩
        exact ⟨Or.inr ⟨by rw [hcode]; rfl, fun hg => h1 hg.2.2.1⟩, hb⟩
    · have hcode : code bs = 7 := by unfold code; rw [if_neg (fun h => h0 h.2.1)]
      refine (parse_mark g c bs w hn.symm hr hby hc h0).mono ?_
      rintro e w' ⟨rfl, hb⟩
      exact ⟨Or.inr ⟨by rw [hcode]; rfl, fun hg => h0 hg.2.1⟩, hb⟩
  · have hcode : code bs = 7 := by unfold code; rw [if_neg (fun h' => h (hn.trans h'.1))]
    refine (parse_len A n c w h).mono ?_
    rintro e w' ⟨rfl, hb⟩
    exact ⟨Or.inr ⟨by rw [hcode]; rfl, fun hg => h (hn.trans hg.1)⟩, hb⟩
/-- The code and the bytes of a record. -/
def ecode (r : Bool) : Nat := if r then 0 else 1
def ebytes (s f b m p d : Nat) (xs : List Int) : List Int := if right b p d xs.length then enc s f b m p d xs else []
theorem encode_any (s f b m p d : Nat) (A : Option Addr) (n c : Nat) (xs : List Int) (w : World) (hs : s < 4294967296) (hf : f < 4294967296) (hb : b < 4294967296) (hm : m < 4294967296) (hp : p < 256) (hd : d < 4294967296) (hn : n = xs.length) (hr : (Kd.int .u8).C w A n xs) (hc : n ≤ c) (hby : Bytes xs) :
    Calls Try.prog 19 #[.agg #[.int .u32 (s : Int), .int .u32 (f : Int), .int .u32 (b : Int), .int .u32 (m : Int), .int .u8 (p : Int), .int .u32 (d : Int), .slice A n c]] w fun e w' => ∃ A' n' c', e = .returned (.tuple #[.slice A' n' c', .int .i64 (ecode (right b p d n) : Int)]) ∧ Kd.R (Kd.int .u8) 5 w' w.heap.size (fun _ => True) (.slice A' n' c') (ebytes s f b m p d xs) ∧ Below w.heap.size w w' := by
  by_cases h : right b p d n = true
  · refine (encode_ok s f b m p d A n c xs w hs hf hb hm hp hd hn hr hc hby h).mono ?_
    rintro e w' ⟨v, rfl, ho, hb⟩
    obtain ⟨A1, c1, rfl⟩ := Kd.R_slice ho
    exact ⟨_, _, _, by rw [h]; rfl, by unfold ebytes; rw [← hn, if_pos h]; exact ho, hb⟩
  · refine (encode_bad s f b m p d A n c w (by simpa using h)).mono ?_
    rintro e w' ⟨rfl, hb⟩
    exact ⟨_, _, _, by rw [show right b p d n = false by simpa using h]; rfl, by unfold ebytes; rw [← hn, if_neg h]; exact Kd.R_nil _ _ _ _ _, hb⟩
theorem ref_encode_any (s f b m p d : Nat) (A : Option Addr) (n c : Nat) (xs : List Int) (w : World) (hs : s < 4294967296) (hf : f < 4294967296) (hb : b < 4294967296) (hm : m < 4294967296) (hp : p < 256) (hd : d < 4294967296) (hn : n = xs.length) (hr : (Kd.int .u8).C w A n xs) (hc : n ≤ c) (hby : Bytes xs) :
    Calls Try.prog 20 #[.agg #[.int .u32 (s : Int), .int .u32 (f : Int), .int .u32 (b : Int), .int .u32 (m : Int), .int .u32 (d : Int), .int .u8 (p : Int), .slice A n c]] w fun e w' => ∃ A' n' c', e = .returned (.tuple #[.slice A' n' c', .int .i64 (ecode (right b p d n) : Int)]) ∧ Kd.R (Kd.int .u8) 5 w' w.heap.size (fun _ => True) (.slice A' n' c') (ebytes s f b m p d xs) ∧ Below w.heap.size w w' := by
  by_cases h : right b p d n = true
  · refine (ref_encode_ok s f b m p d A n c xs w hs hf hb hm hp hd hn hr hc hby h).mono ?_
    rintro e w' ⟨v, rfl, ho, hb⟩
    obtain ⟨A1, c1, rfl⟩ := Kd.R_slice ho
    exact ⟨_, _, _, by rw [h]; rfl, by unfold ebytes; rw [← hn, if_pos h]; exact ho, hb⟩
  · refine (ref_encode_bad s f b m p d A n c w (by simpa using h)).mono ?_
    rintro e w' ⟨rfl, hb⟩
    exact ⟨_, _, _, by rw [show right b p d n = false by simpa using h]; rfl, by unfold ebytes; rw [← hn, if_neg h]; exact Kd.R_nil _ _ _ _ _, hb⟩
theorem parse_enc (s f b m p d : Nat) (xs : List Int) (g n c : Nat) (w : World) (hs : s < 4294967296) (hf : f < 4294967296) (hb : b < 4294967296) (hm : m < 4294967296) (hp : p < 256) (hd : d < 4294967296) (hby : Bytes xs) (hri : right b p d xs.length = true) (hn : n = (enc s f b m p d xs).length) (hr : (Kd.int .u8).C w (some ⟨g, 0, none⟩) n (enc s f b m p d xs)) (hc : n ≤ c) :
    Calls Try.prog 25 #[.slice (some ⟨g, 0, none⟩) n c] w fun e w' => ∃ A' n' c', e = .returned (.tuple #[.agg (recs s f b m p d (.slice A' n' c')), .int .i64 0]) ∧ (Kd.int .u8).R 5 w' w.heap.size (fun _ => True) (.slice A' n' c') xs ∧ Below w.heap.size w w' := by
  refine (parse_any (some ⟨g, 0, none⟩) n c (enc s f b m p d xs) w hn (fun _ => ⟨g, rfl⟩) hr (bytes_enc hp hby) hc).mono ?_
  rintro e w' ⟨h | h, hb'⟩
  · obtain ⟨A1, n1, c1, rfl, ho, hg⟩ := h
    obtain ⟨t0, t4, t8, t12, t16, t20, t21, t24, tb, ts, ti⟩ := enc_tells s f b m p d xs hs hf hb hm hd (by simp [right] at hri; omega)
    rw [t4, t8, t12, t16, t20, t24]
    rw [ti] at ho
    exact ⟨_, _, _, rfl, ho, hb'⟩
  · exact absurd (good_enc s f b m p d xs hs hf hb hm hd hri) h.2
/-- Only the bytes of a right record are parsed. -/
theorem parse_code (A : Option Addr) (n c : Nat) (bs : List Int) (w : World) (hn : n = bs.length) (hA : n = 160 → ∃ g, A = some ⟨g, 0, none⟩) (hr : (Kd.int .u8).C w A n bs) (hby : Bytes bs) (hc : n ≤ c) :
    Calls Try.prog 25 #[.slice A n c] w fun e w' => ∃ (row : Array Value) (h : Nat), e = .returned (.tuple #[.agg row, .int .i64 (h : Int)]) ∧ row.size = 7 ∧ row.all (·.oneCell') = true ∧ (h = 0 → Good bs) ∧ Below w.heap.size w w' := by
  refine (parse_any A n c bs w hn hA hr hby hc).mono ?_
  rintro e w' ⟨h | h, hb'⟩
  · obtain ⟨A1, n1, c1, rfl, ho, hg⟩ := h
    exact ⟨_, 0, rfl, rfl, recs_one _ _ _ _ _ _ _ _ _, fun _ => hg, hb'⟩
  · obtain ⟨rfl, hg⟩ := h
    exact ⟨_, _, rfl, rfl, zero37_one, fun h => absurd h (by unfold code; split <;> decide), hb'⟩
theorem tail_zero (bs : List Int) (hb : Bytes bs) (hl : bs.length = 160) (h : num bs 156 = 0) : (bs.drop 156).take 4 = [0, 0, 0, 0] := by
  have h : at_ bs 156 + 256 * at_ bs 157 + 65536 * at_ bs 158 + 16777216 * at_ bs 159 = 0 := h
  have e : ∀ i, i < 160 → bs[i]? = some ((at_ bs i : Nat) : Int) := fun i hi => by rw [List.getElem?_eq_getElem (by omega), at_val hb i (by omega)]
  have e0 := e 156 (by decide)
  have e1 := e 157 (by decide)
  have e2 := e 158 (by decide)
  have e3 := e 159 (by decide)
  rw [show at_ bs 156 = 0 by omega] at e0
  rw [show at_ bs 157 = 0 by omega] at e1
  rw [show at_ bs 158 = 0 by omega] at e2
  rw [show at_ bs 159 = 0 by omega] at e3
  apply List.ext_getElem?
  intro i
  rw [List.getElem?_take, List.getElem?_drop]
  match i with
  | 0 => simpa using e0
  | 1 => simpa using e1
  | 2 => simpa using e2
  | 3 => simpa using e3
  | k + 4 => simp; omega
theorem place8 (a : Int) : ∃ i : Nat, wrap64 ((IntKind.u64.wrap a).tmod 1280) = (i : Int) ∧ i < 1280 := by
  have h1 : IntKind.u64.wrap a = a % 18446744073709551616 := by simp [IntKind.wrap, IntKind.bits, IntKind.signed]
  rw [h1]
  have h2 : 0 ≤ a % 18446744073709551616 := Int.emod_nonneg _ (by decide)
  rw [Int.tmod_eq_emod_of_nonneg h2]
  generalize a % 18446744073709551616 = b at *
  refine ⟨(b % 1280).toNat, ?_, ?_⟩
  · unfold wrap64
    omega
  · omega
section
variable {o : Oper} {a : Act} {W : World}
theorem event_load37 (x : Operand) (g : Nat) (cs : Array Value) (ho : o.op = .load 37 x) (hx : a.eval x = .pointer (some ⟨g, 0, none⟩)) (hg : W.heap[g]? = some (.cells cs 37 (0, 0))) (hi : cs.size = 7) :
    (execOp a.eval o).run Try.prog W = .ok (.value (.agg cs)) W := by
  unfold execOp
  simp only [ho, hx, Instr.loadAt, Instr.sureAddr, Sem.run_bind, Sem.run_pure, Result.andThen_ok, run_loadVar_row (P := Try.prog) W g 37 37 cs (0, 0) _ hg Try.underlying37 rfl (by rw [hi]; kernel_rfl)]
end
end Go.Proofs.Ytjblklejjemdhaa.Krec
