/- The record's bytes, the plain law: what its bytes are, when it is right, what bytes say. No program. -/
import Derived.Test.YtjblklejjemdhaaKcrcA
namespace Go.Proofs.Ytjblklejjemdhaa.Krec
open Go.RowKit Go.Proofs.YtjblklejjemdhaaW.PrintWords Kbase Kcrc
/-- A number's four bytes, the lowest one first. -/
def le4 (n : Nat) : List Int := [((n % 256 : Nat) : Int), ((n / 256 % 256 : Nat) : Int), ((n / 65536 % 256 : Nat) : Int), ((n / 16777216 % 256 : Nat) : Int)]
/-- The byte at a place. -/
def at_ (xs : List Int) (i : Nat) : Nat := (xs.getD i 0).toNat
/-- The number at a place. -/
def num (xs : List Int) (i : Nat) : Nat := at_ xs i + 256 * at_ xs (i + 1) + 65536 * at_ xs (i + 2) + 16777216 * at_ xs (i + 3)
def right (b p d n : Nat) : Bool := decide (b ≤ 4096) && decide (d ≤ 4096) && decide (p ≤ 2) && decide (n ≤ 128) && (decide (p ≠ 0) || decide (n = 0) && decide (d = 0))
/-- The sum, 0 in the place of all bits 1. -/
def rsum (xs : List Int) : Nat := if update 0 xs = 4294967295 then 0 else update 0 xs
def head (s f b m p d n : Nat) : List Int := le4 827216706 ++ le4 s ++ le4 f ++ le4 b ++ le4 m ++ [(p : Int), ((n % 256 : Nat) : Int), 0, 0] ++ le4 d
def body (s f b m p d : Nat) (xs : List Int) : List Int := head s f b m p d xs.length ++ xs ++ List.replicate (128 - xs.length) 0
def enc (s f b m p d : Nat) (xs : List Int) : List Int := body s f b m p d xs ++ le4 (rsum (body s f b m p d xs))
def init (bs : List Int) : List Int := (bs.drop 28).take (at_ bs 21)
/-- The bytes of a right record. -/
def Good (bs : List Int) : Prop := bs.length = 160 ∧ num bs 0 = 827216706 ∧ rsum (bs.take 156) = num bs 156 ∧ at_ bs 21 ≤ 128 ∧
  right (num bs 12) (at_ bs 20) (num bs 24) (at_ bs 21) = true ∧ enc (num bs 4) (num bs 8) (num bs 12) (num bs 16) (at_ bs 20) (num bs 24) (init bs) = bs
theorem le4_len (n : Nat) : (le4 n).length = 4 := rfl
theorem le4_bytes (n : Nat) : Bytes (le4 n) := by
  intro x hx
  simp [le4] at hx
  omega
theorem head_len (s f b m p d n : Nat) : (head s f b m p d n).length = 28 := rfl
theorem body_len (s f b m p d : Nat) (xs : List Int) (h : xs.length ≤ 128) : (body s f b m p d xs).length = 156 := by
  unfold body
  rw [List.length_append, List.length_append, head_len, List.length_replicate]
  omega
theorem enc_len (s f b m p d : Nat) (xs : List Int) (h : xs.length ≤ 128) : (enc s f b m p d xs).length = 160 := by
  unfold enc
  rw [List.length_append, body_len _ _ _ _ _ _ _ h, le4_len]
theorem rsum_lt (xs : List Int) : rsum xs < 4294967296 := by
  have := update_le 0 xs
  unfold rsum
  split <;> omega
theorem at_lt {xs : List Int} (h : Bytes xs) (i : Nat) : at_ xs i < 256 := by
  unfold at_
  rw [List.getD_eq_getElem?_getD]
  by_cases hi : i < xs.length
  · rw [List.getElem?_eq_getElem hi, Option.getD_some]
    have := h _ (List.getElem_mem hi)
    omega
  · rw [List.getElem?_eq_none (by omega)]
    decide
theorem at_val {xs : List Int} (h : Bytes xs) (i : Nat) (hi : i < xs.length) : xs[i] = (at_ xs i : Int) := by
  unfold at_
  rw [List.getD_eq_getElem?_getD, List.getElem?_eq_getElem hi, Option.getD_some]
  have := h _ (List.getElem_mem hi)
  omega
theorem num_lt {xs : List Int} (h : Bytes xs) (i : Nat) : num xs i < 4294967296 := by
  have h0 := at_lt h i
  have h1 := at_lt h (i + 1)
  have h2 := at_lt h (i + 2)
  have h3 := at_lt h (i + 3)
  unfold num
  omega
theorem at_append_left (xs ys : List Int) (i : Nat) (h : i < xs.length) : at_ (xs ++ ys) i = at_ xs i := by
  unfold at_
  rw [List.getD_eq_getElem?_getD, List.getD_eq_getElem?_getD, List.getElem?_append_left h]
theorem at_append_right (xs ys : List Int) (i : Nat) (h : xs.length ≤ i) : at_ (xs ++ ys) i = at_ ys (i - xs.length) := by
  unfold at_
  rw [List.getD_eq_getElem?_getD, List.getD_eq_getElem?_getD, List.getElem?_append_right h]
theorem num_append_left (xs ys : List Int) (i : Nat) (h : i + 3 < xs.length) : num (xs ++ ys) i = num xs i := by
  unfold num
  rw [at_append_left _ _ _ (by omega), at_append_left _ _ _ (by omega), at_append_left _ _ _ (by omega), at_append_left _ _ _ (by omega)]
theorem num_append_right (xs ys : List Int) (i : Nat) (h : xs.length ≤ i) : num (xs ++ ys) i = num ys (i - xs.length) := by
  unfold num
  rw [at_append_right _ _ _ h, at_append_right _ _ _ (by omega), at_append_right _ _ _ (by omega), at_append_right _ _ _ (by omega)]
  rw [show i + 1 - xs.length = i - xs.length + 1 from by omega, show i + 2 - xs.length = i - xs.length + 2 from by omega, show i + 3 - xs.length = i - xs.length + 3 from by omega]
theorem num_le4 (n : Nat) (h : n < 4294967296) : num (le4 n) 0 = n := by
  simp only [num, at_, le4, List.getD_cons_zero, List.getD_cons_succ, Int.toNat_natCast, Nat.zero_add]
  omega
theorem num_le4' (xs : List Int) (n : Nat) (h : n < 4294967296) : num (le4 n ++ xs) 0 = n := by
  rw [num_append_left _ _ _ (by rw [le4_len]; omega), num_le4 n h]
/-- The head tells its numbers. -/
theorem head_tells (s f b m p d n : Nat) (ys : List Int) (hs : s < 4294967296) (hf : f < 4294967296) (hb : b < 4294967296) (hm : m < 4294967296) (hd : d < 4294967296) (hn : n < 256) :
    num (head s f b m p d n ++ ys) 0 = 827216706 ∧ num (head s f b m p d n ++ ys) 4 = s ∧ num (head s f b m p d n ++ ys) 8 = f ∧ num (head s f b m p d n ++ ys) 12 = b ∧ num (head s f b m p d n ++ ys) 16 = m ∧
    at_ (head s f b m p d n ++ ys) 20 = p ∧ at_ (head s f b m p d n ++ ys) 21 = n ∧ num (head s f b m p d n ++ ys) 24 = d := by
  simp only [num, at_, head, le4, List.cons_append, List.nil_append, List.getD_cons_zero, List.getD_cons_succ, Int.toNat_natCast, Nat.zero_add, Nat.reduceAdd]
  refine ⟨?_, ?_, ?_, ?_, ?_, ?_, ?_, ?_⟩ <;> first | omega | trivial
theorem bytes_head {s f b m p d n : Nat} (hp : p < 256) : Bytes (head s f b m p d n) := by
  unfold head
  refine bytes_append (bytes_append (bytes_append (bytes_append (bytes_append (bytes_append (le4_bytes _) (le4_bytes _)) (le4_bytes _)) (le4_bytes _)) (le4_bytes _)) ?_) (le4_bytes _)
  intro x hx
  simp at hx
  omega
theorem bytes_zeros (n : Nat) : Bytes (List.replicate n 0) := fun x hx => by
  rw [(List.mem_replicate.1 hx).2]
  omega
theorem bytes_body {s f b m p d : Nat} {xs : List Int} (hp : p < 256) (h : Bytes xs) : Bytes (body s f b m p d xs) := bytes_append (bytes_append (bytes_head hp) h) (bytes_zeros _)
theorem bytes_enc {s f b m p d : Nat} {xs : List Int} (hp : p < 256) (h : Bytes xs) : Bytes (enc s f b m p d xs) := bytes_append (bytes_body hp h) (le4_bytes _)
/-- What a right record's bytes tell. -/
theorem enc_tells (s f b m p d : Nat) (xs : List Int) (hs : s < 4294967296) (hf : f < 4294967296) (hb : b < 4294967296) (hm : m < 4294967296) (hd : d < 4294967296) (hn : xs.length ≤ 128) :
    num (enc s f b m p d xs) 0 = 827216706 ∧ num (enc s f b m p d xs) 4 = s ∧ num (enc s f b m p d xs) 8 = f ∧ num (enc s f b m p d xs) 12 = b ∧ num (enc s f b m p d xs) 16 = m ∧
    at_ (enc s f b m p d xs) 20 = p ∧ at_ (enc s f b m p d xs) 21 = xs.length ∧ num (enc s f b m p d xs) 24 = d ∧ (enc s f b m p d xs).take 156 = body s f b m p d xs ∧
    num (enc s f b m p d xs) 156 = rsum (body s f b m p d xs) ∧ init (enc s f b m p d xs) = xs := by
  have e1 : enc s f b m p d xs = head s f b m p d xs.length ++ (xs ++ List.replicate (128 - xs.length) 0 ++ le4 (rsum (body s f b m p d xs))) := by
    unfold enc body
    simp only [List.append_assoc]
  have hl := body_len s f b m p d xs hn
  have ht := head_tells s f b m p d xs.length (xs ++ List.replicate (128 - xs.length) 0 ++ le4 (rsum (body s f b m p d xs))) hs hf hb hm hd (by omega)
  rw [← e1] at ht
  obtain ⟨t0, t4, t8, t12, t16, t20, t21, t24⟩ := ht
  refine ⟨t0, t4, t8, t12, t16, t20, t21, t24, ?_, ?_, ?_⟩
  · unfold enc
    rw [← hl, List.take_left]
  · unfold enc
    rw [num_append_right _ _ _ (by omega), hl, num_le4 _ (rsum_lt _)]
  · unfold init
    rw [t21, e1, List.drop_left' (head_len _ _ _ _ _ _ _), List.append_assoc, List.take_left]
theorem good_enc (s f b m p d : Nat) (xs : List Int) (hs : s < 4294967296) (hf : f < 4294967296) (hb : b < 4294967296) (hm : m < 4294967296) (hd : d < 4294967296) (hr : right b p d xs.length = true) : Good (enc s f b m p d xs) := by
  have hn : xs.length ≤ 128 := by simp [right] at hr; omega
  obtain ⟨t0, t4, t8, t12, t16, t20, t21, t24, tb, ts, ti⟩ := enc_tells s f b m p d xs hs hf hb hm hd hn
  refine ⟨enc_len _ _ _ _ _ _ _ hn, t0, by rw [tb, ts], by omega, by rw [t12, t20, t24, t21]; exact hr, by rw [t4, t8, t12, t16, t20, t24, ti]⟩
/-! ### a bit turned -/
theorem at_set (xs : List Int) (j : Nat) (v : Nat) (hj : j < xs.length) (i : Nat) : at_ (xs.set j (v : Int)) i = if i = j then v else at_ xs i := by
  unfold at_
  rw [List.getD_eq_getElem?_getD, List.getD_eq_getElem?_getD, List.getElem?_set]
  by_cases h : j = i
  · subst h
    rw [if_pos rfl, if_pos hj, if_pos rfl, Option.getD_some, Int.toNat_natCast]
  · rw [if_neg h, if_neg (fun e => h e.symm)]
theorem turn_ne (x m : Nat) : x ^^^ 2 ^ m ≠ x := fun h => by
  have h1 : x ^^^ 2 ^ m = x ^^^ 0 := by rw [h, Nat.xor_zero]
  have h2 := xor_cancel h1
  have h3 := Nat.two_pow_pos m
  omega
theorem num_same {xs ys : List Int} (hx : Bytes xs) (hy : Bytes ys) (i : Nat) (h : num xs i = num ys i) : at_ xs i = at_ ys i ∧ at_ xs (i + 1) = at_ ys (i + 1) ∧ at_ xs (i + 2) = at_ ys (i + 2) ∧ at_ xs (i + 3) = at_ ys (i + 3) := by
  have a0 := at_lt hx i
  have a1 := at_lt hx (i + 1)
  have a2 := at_lt hx (i + 2)
  have a3 := at_lt hx (i + 3)
  have b0 := at_lt hy i
  have b1 := at_lt hy (i + 1)
  have b2 := at_lt hy (i + 2)
  have b3 := at_lt hy (i + 3)
  unfold num at h
  omega
theorem rsum_of {xs : List Int} (h : rsum xs ≠ 0) : update 0 xs = rsum xs := by
  unfold rsum at h ⊢
  split at h
  · exact absurd rfl h
  · rename_i hc
    rw [if_neg hc]
/-- Bytes with a bit turned are good only if their sum is 0. -/
theorem turned_bad (bs : List Int) (hb : Bytes bs) (hg : Good bs) (j m : Nat) (hj : j < 160) (hm : m < 8) (hd : Good (bs.set j ((at_ bs j ^^^ 2 ^ m : Nat) : Int))) : rsum (bs.take 156) = 0 := by
  obtain ⟨hl, h0, hs, _⟩ := hg
  obtain ⟨dl, d0, ds, _⟩ := hd
  have hjb : j < bs.length := by omega
  have hpm : 2 ^ m < 256 := Nat.pow_lt_pow_right (by decide) hm
  have hxb : at_ bs j ^^^ 2 ^ m < 256 := Nat.xor_lt_two_pow (n := 8) (at_lt hb j) hpm
  have hdb : Bytes (bs.set j ((at_ bs j ^^^ 2 ^ m : Nat) : Int)) := fun n hn => by
    rcases List.mem_or_eq_of_mem_set hn with h | h
    · exact hb n h
    · omega
  have hat := at_set bs j (at_ bs j ^^^ 2 ^ m) hjb
  have hne := turn_ne (at_ bs j) m
  by_cases h4 : j < 4
  · obtain ⟨e0, e1, e2, e3⟩ := num_same hdb hb 0 (by rw [d0, h0])
    rw [hat] at e0 e1 e2 e3
    rcases (show j = 0 ∨ j = 1 ∨ j = 2 ∨ j = 3 by omega) with h | h | h | h
    · subst h; rw [if_pos rfl] at e0; exact absurd e0 hne
    · subst h; rw [if_pos rfl] at e1; exact absurd e1 hne
    · subst h; rw [if_pos rfl] at e2; exact absurd e2 hne
    · subst h; rw [if_pos rfl] at e3; exact absurd e3 hne
  · by_cases h156 : j < 156
    · have hn : num (bs.set j ((at_ bs j ^^^ 2 ^ m : Nat) : Int)) 156 = num bs 156 := by
        unfold num
        rw [hat, hat, hat, hat, if_neg (by omega), if_neg (by omega), if_neg (by omega), if_neg (by omega)]
      by_cases hz : rsum (bs.take 156) = 0
      · exact hz
      · exfalso
        have ht : (bs.set j ((at_ bs j ^^^ 2 ^ m : Nat) : Int)).take 156 = (bs.take 156).set j ((at_ bs j ^^^ 2 ^ m : Nat) : Int) := List.take_set
        have hl2 : (bs.take 156).length = 156 := by rw [List.length_take]; omega
        have hb2 : Bytes (bs.take 156) := fun n hn => hb n (List.mem_of_mem_take hn)
        have hj2 : j < (bs.take 156).length := by omega
        have hx : (bs.take 156)[j].toNat = at_ bs j := by
          unfold at_
          rw [List.getElem_take, List.getD_eq_getElem?_getD, List.getElem?_eq_getElem hjb, Option.getD_some]
        have hv := val_set (bs.take 156) j (2 ^ m) hj2
        rw [hx, ← Nat.pow_add] at hv
        have hb3 : Bytes ((bs.take 156).set j ((at_ bs j ^^^ 2 ^ m : Nat) : Int)) := fun n hn => by
          rcases List.mem_or_eq_of_mem_set hn with h | h
          · exact hb2 n h
          · omega
        have hbf := burst_found 0 (bs.take 156) _ hb2 hb3 (by rw [List.length_set]) (8 * j + m) 1 (by omega) (by decide) (by decide) (by rw [hv, Nat.mul_one])
        rw [ht, hn, ← hs] at ds
        have e1 := rsum_of hz
        have e2 := rsum_of (xs := (bs.take 156).set j ((at_ bs j ^^^ 2 ^ m : Nat) : Int)) (by rw [ds]; exact hz)
        exact hbf (by rw [e2, ds, e1])
    · exfalso
      have ht : (bs.set j ((at_ bs j ^^^ 2 ^ m : Nat) : Int)).take 156 = bs.take 156 := by
        rw [List.take_set, List.set_eq_of_length_le (by rw [List.length_take]; omega)]
      rw [ht, hs] at ds
      obtain ⟨e0, e1, e2, e3⟩ := num_same hb hdb 156 ds
      rw [hat] at e0 e1 e2 e3
      rcases (show j = 156 ∨ j = 157 ∨ j = 158 ∨ j = 159 by omega) with h | h | h | h
      · subst h; rw [if_pos rfl] at e0; exact hne e0.symm
      · subst h; rw [if_pos rfl] at e1; exact hne e1.symm
      · subst h; rw [if_pos rfl] at e2; exact hne e2.symm
      · subst h; rw [if_pos rfl] at e3; exact hne e3.symm
end Go.Proofs.Ytjblklejjemdhaa.Krec
