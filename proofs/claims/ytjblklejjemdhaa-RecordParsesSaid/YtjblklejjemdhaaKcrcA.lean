/- The checksum, the plain law: registers as natural numbers; a byte list as one number, the lowest bit first. No program. -/
import Derived.Test.YtjblklejjemdhaaKbase
namespace Go.Proofs.Ytjblklejjemdhaa.Kcrc
open Go.RowKit Go.Proofs.YtjblklejjemdhaaW.PrintWords Kbase
/-- One bit more: a register is shifted; what fell out takes the polynomial away. -/
def st (c : Nat) : Nat := if c % 2 = 1 then c / 2 ^^^ 3988292384 else c / 2
def it : Nat → Nat → Nat
  | 0, c => c
  | n + 1, c => it n (st c)
theorem it_succ (n c : Nat) : it (n + 1) c = it n (st c) := rfl
theorem xor_mod2 (a b : Nat) : (a ^^^ b) % 2 = (a % 2 + b % 2) % 2 := by
  have h : (a ^^^ b) % 2 ^ 1 = a % 2 ^ 1 ^^^ b % 2 ^ 1 := Nat.xor_mod_two_pow
  rw [Nat.pow_one] at h
  rw [h]
  rcases Nat.mod_two_eq_zero_or_one a with ha | ha <;> rcases Nat.mod_two_eq_zero_or_one b with hb | hb <;> rw [ha, hb] <;> rfl
theorem xrc (a b c : Nat) : a ^^^ b ^^^ c = a ^^^ c ^^^ b := by ac_rfl
theorem st_xor (a b : Nat) : st (a ^^^ b) = st a ^^^ st b := by
  have hm := xor_mod2 a b
  have hd : (a ^^^ b) / 2 = a / 2 ^^^ b / 2 := Nat.xor_div_two
  unfold st
  rw [hd]
  rcases Nat.mod_two_eq_zero_or_one a with ha | ha <;> rcases Nat.mod_two_eq_zero_or_one b with hb | hb
  · rw [if_neg (by omega), if_neg (by omega), if_neg (by omega)]
  · rw [if_pos (by omega), if_neg (by omega), if_pos (by omega), Nat.xor_assoc]
  · rw [if_pos (by omega), if_pos (by omega), if_neg (by omega), xrc]
  · rw [if_neg (by omega), if_pos (by omega), if_pos (by omega)]
    rw [show a / 2 ^^^ 3988292384 ^^^ (b / 2 ^^^ 3988292384) = a / 2 ^^^ b / 2 ^^^ (3988292384 ^^^ 3988292384) from by ac_rfl]
    rw [Nat.xor_self, Nat.xor_zero]
theorem st_twice (v : Nat) : st (2 * v) = v := by
  unfold st
  rw [if_neg (by omega)]
  omega
theorem it_xor : ∀ (n a b : Nat), it n (a ^^^ b) = it n a ^^^ it n b
  | 0, _, _ => rfl
  | n + 1, a, b => by
    rw [it_succ, it_succ, it_succ, st_xor]
    exact it_xor n _ _
theorem it_add : ∀ (n m c : Nat), it (n + m) c = it m (it n c)
  | 0, m, c => by rw [Nat.zero_add]; rfl
  | n + 1, m, c => by
    rw [show n + 1 + m = n + m + 1 from by omega, it_succ, it_succ]
    exact it_add n m (st c)
theorem it_snoc (n c : Nat) : it (n + 1) c = st (it n c) := it_add n 1 c
theorem it_pow : ∀ (n v : Nat), it n (2 ^ n * v) = v
  | 0, v => by simp [it]
  | n + 1, v => by
    rw [it_succ, show 2 ^ (n + 1) * v = 2 * (2 ^ n * v) from by rw [Nat.pow_succ, Nat.mul_comm (2 ^ n) 2, Nat.mul_assoc], st_twice]
    exact it_pow n v
theorem st_lt {c : Nat} (h : c < 4294967296) : st c < 4294967296 := by
  unfold st
  split
  · exact Nat.xor_lt_two_pow (n := 32) (by omega) (by decide)
  · omega
theorem it_lt : ∀ (n : Nat) {c : Nat}, c < 4294967296 → it n c < 4294967296
  | 0, _, h => h
  | n + 1, _, h => it_lt n (st_lt h)
theorem st_none {c : Nat} (h : c < 4294967296) (h0 : st c = 0) : c = 0 := by
  unfold st at h0
  split at h0
  · rename_i ho
    have h1 : c / 2 ^^^ 3988292384 ^^^ 3988292384 = 3988292384 := by rw [h0, Nat.zero_xor]
    rw [Nat.xor_assoc, Nat.xor_self, Nat.xor_zero] at h1
    omega
  · rename_i ho
    omega
theorem it_none : ∀ (n : Nat) {c : Nat}, c < 4294967296 → it n c = 0 → c = 0
  | 0, _, _, h0 => h0
  | n + 1, _, h, h0 => st_none h (it_none n (st_lt h) h0)
/-- What a byte turns. -/
def tab (i : Nat) : Nat := it 8 i
def upd (c x : Nat) : Nat := tab (c % 256 ^^^ x) ^^^ c / 256
theorem split256 (c x : Nat) : c ^^^ x = (c % 256 ^^^ x) ^^^ 2 ^ 8 * (c / 256) := by
  have h : c = c % 256 ^^^ 2 ^ 8 * (c / 256) := by
    apply Nat.eq_of_testBit_eq
    intro i
    rw [Nat.testBit_xor]
    rw [show (256 : Nat) = 2 ^ 8 from rfl, Nat.testBit_mod_two_pow, Nat.testBit_two_pow_mul, Nat.testBit_div_two_pow]
    by_cases hi : i < 8
    · have h8 : ¬ 8 ≤ i := by omega
      simp [hi, h8]
    · have h8 : 8 ≤ i := by omega
      simp [hi, h8, Nat.sub_add_cancel h8]
  rw [xrc, ← h]
theorem upd_eq (c x : Nat) : upd c x = it 8 (c ^^^ x) := by
  rw [split256 c x, it_xor, it_pow]
  rfl
theorem upd_lt {c x : Nat} (hc : c < 4294967296) (hx : x < 256) : upd c x < 4294967296 := by
  rw [upd_eq c x]
  exact it_lt 8 (Nat.xor_lt_two_pow (n := 32) hc (by omega))
def reg (c : Nat) (xs : List Int) : Nat := xs.foldl (fun c x => upd c x.toNat) c
theorem reg_append (c : Nat) (xs ys : List Int) : reg c (xs ++ ys) = reg (reg c xs) ys := List.foldl_append
theorem reg_snoc (c : Nat) (xs : List Int) (x : Int) : reg c (xs ++ [x]) = upd (reg c xs) x.toNat := by rw [reg_append]; rfl
theorem byte_lt {x : Int} (h : 0 ≤ x ∧ x ≤ 255) : x.toNat < 256 := by omega
theorem reg_lt : ∀ {xs : List Int} {c : Nat}, Bytes xs → c < 4294967296 → reg c xs < 4294967296
  | [], _, _, h => h
  | x :: xs, _, hb, h => reg_lt (xs := xs) (fun n hn => hb n (List.mem_cons_of_mem _ hn)) (upd_lt h (byte_lt (hb x List.mem_cons_self)))
/-- The sum behind a sum. -/
def update (s : Nat) (xs : List Int) : Nat := 4294967295 - reg (4294967295 - s) xs
theorem update_le (s : Nat) (xs : List Int) : update s xs ≤ 4294967295 := Nat.sub_le _ _
theorem update_nil (s : Nat) (h : s ≤ 4294967295) : update s [] = s := by
  unfold update reg
  simp only [List.foldl_nil]
  omega
theorem update_append (s : Nat) (xs ys : List Int) (hx : Bytes xs) : update (update s xs) ys = update s (xs ++ ys) := by
  unfold update
  rw [reg_append]
  have h := reg_lt (c := 4294967295 - s) hx (by omega)
  rw [show 4294967295 - (4294967295 - reg (4294967295 - s) xs) = reg (4294967295 - s) xs from by omega]
/-! ### all bits at once -/
def val : List Int → Nat
  | [] => 0
  | x :: xs => x.toNat ^^^ 2 ^ 8 * val xs
theorem reg_val : ∀ (xs : List Int) (c : Nat), Bytes xs → reg c xs = it (8 * xs.length) (c ^^^ val xs)
  | [], c, _ => by simp [reg, val, it]
  | x :: xs, c, hb => by
    have ih := reg_val xs (upd c x.toNat) (fun n hn => hb n (List.mem_cons_of_mem _ hn))
    have h1 : reg c (x :: xs) = reg (upd c x.toNat) xs := rfl
    rw [h1, ih, upd_eq c _, List.length_cons, show 8 * (xs.length + 1) = 8 + 8 * xs.length from by omega, it_add]
    rw [show val (x :: xs) = x.toNat ^^^ 2 ^ 8 * val xs from rfl, ← Nat.xor_assoc, it_xor 8 (c ^^^ x.toNat), it_pow]
theorem mul_xor (n a b : Nat) : 2 ^ n * (a ^^^ b) = 2 ^ n * a ^^^ 2 ^ n * b := by
  rw [Nat.mul_comm, Nat.mul_comm (2 ^ n) a, Nat.mul_comm (2 ^ n) b, ← Nat.shiftLeft_eq, ← Nat.shiftLeft_eq, ← Nat.shiftLeft_eq, Nat.shiftLeft_xor_distrib]
theorem val_set : ∀ (xs : List Int) (j t : Nat) (h : j < xs.length), val (xs.set j ((xs[j].toNat ^^^ t : Nat) : Int)) = val xs ^^^ 2 ^ (8 * j) * t
  | [], _, _, h => by simp at h
  | x :: xs, 0, t, _ => by
    simp only [List.set_cons_zero, List.getElem_cons_zero, val, Int.toNat_natCast]
    rw [Nat.mul_zero, Nat.pow_zero, Nat.one_mul, xrc]
  | x :: xs, j + 1, t, h => by
    simp only [List.set_cons_succ, List.getElem_cons_succ, val]
    rw [val_set xs j t (by simpa using h), mul_xor, ← Nat.xor_assoc, ← Nat.mul_assoc, ← Nat.pow_add, show 8 + 8 * j = 8 * (j + 1) from by omega]
theorem xor_cancel {a b c : Nat} (h : a ^^^ b = a ^^^ c) : b = c := by
  have h1 : a ^^^ (a ^^^ b) = a ^^^ (a ^^^ c) := by rw [h]
  rwa [← Nat.xor_assoc, Nat.xor_self, Nat.zero_xor, ← Nat.xor_assoc, Nat.xor_self, Nat.zero_xor] at h1
/-- Up to thirty-two bits beside each other, turned, change the sum. -/
theorem burst_found (s : Nat) (xs ys : List Int) (hx : Bytes xs) (hy : Bytes ys) (hl : ys.length = xs.length) (i t : Nat) (hi : i ≤ 8 * xs.length) (ht : t < 4294967296) (h0 : t ≠ 0) (hv : val ys = val xs ^^^ 2 ^ i * t) : update s ys ≠ update s xs := by
  intro he
  have h1 := reg_lt (c := 4294967295 - s) hx (by omega)
  have h2 := reg_lt (c := 4294967295 - s) hy (by omega)
  unfold update at he
  have h3 : reg (4294967295 - s) ys = reg (4294967295 - s) xs := by omega
  rw [reg_val _ _ hx, reg_val _ _ hy, hl, hv, ← Nat.xor_assoc, it_xor] at h3
  have h4 : it (8 * xs.length) (2 ^ i * t) = 0 := xor_cancel (a := it (8 * xs.length) (4294967295 - s ^^^ val xs)) (by rw [h3, Nat.xor_zero])
  rw [show 8 * xs.length = i + (8 * xs.length - i) from by omega, it_add, it_pow] at h4
  exact h0 (it_none _ ht h4)
/-! ### bit by bit -/
theorem bit_more (b m : Nat) : b % 2 ^ (m + 1) = b % 2 ^ m ^^^ 2 ^ m * (b / 2 ^ m % 2) := by
  apply Nat.eq_of_testBit_eq
  intro i
  rw [Nat.testBit_xor, Nat.testBit_mod_two_pow, Nat.testBit_mod_two_pow, Nat.testBit_two_pow_mul]
  have h2 : (b / 2 ^ m % 2).testBit (i - m) = (decide (i - m < 1) && b.testBit (i - m + m)) := by
    have := Nat.testBit_mod_two_pow (b / 2 ^ m) 1 (i - m)
    rw [Nat.pow_one] at this
    rw [this, Nat.testBit_div_two_pow]
  rw [h2]
  rcases Nat.lt_trichotomy i m with h | h | h
  · have h1 : ¬ m ≤ i := by omega
    simp [h, h1, show i < m + 1 from by omega]
  · subst h
    simp
  · have h1 : ¬ i < m + 1 := by omega
    have h3 : ¬ i < m := by omega
    have h4 : ¬ i - m < 1 := by omega
    simp [h1, h3, h4]
theorem st_bit (d t : Nat) (ht : t < 2) : st (d ^^^ t) = if d % 2 = t then d / 2 else d / 2 ^^^ 3988292384 := by
  have hm := xor_mod2 d t
  have hd : (d ^^^ t) / 2 = d / 2 ^^^ t / 2 := Nat.xor_div_two
  rw [show t / 2 = 0 from by omega, Nat.xor_zero] at hd
  unfold st
  rw [hd]
  by_cases h : d % 2 = t
  · rw [if_pos h, if_neg (by omega)]
  · rw [if_neg h, if_pos (by omega)]
theorem it_bit (m r b : Nat) : it (m + 1) (r ^^^ b % 2 ^ (m + 1)) = st (it m (r ^^^ b % 2 ^ m) ^^^ b / 2 ^ m % 2) := by
  rw [bit_more, ← Nat.xor_assoc, it_snoc, it_xor m, it_pow]
end Go.Proofs.Ytjblklejjemdhaa.Kcrc
