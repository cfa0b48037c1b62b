/- The walk of the reference's DecodeEvent. -/
import Derived.Test.YtdndmbcejoodpaaGreatDoorWREnc
import Derived.Test.YtdndmbcejoodpaaGreatDoorPwordsx1
import Derived.Test.YtdndmbcejoodpaaGreatDoorPnumberx1
import Derived.Test.YtdndmbcejoodpaaGreatDoorPhexx1
namespace Go.Proofs.YtdndmbcejoodpaaGreatDoor
open Go.RowKit Go.Proofs.YtdndmbcejoodpaaGreatDoorW.PrintWords Go.Proofs.YtdndmbcejoodpaaGreatDoorW.PrintLast Go.Proofs.YtdndmbcejoodpaaGreatDoorW.PrintMore
set_option linter.unusedVariables false
set_option linter.unusedSimpArgs false
theorem words_loop (s : ByteArray) (hs : s.size ≤ 4294967296) : ∀ (rest : List UInt8) (k i fr : Nat) (done : List ByteArray), s.data.toList.drop i = rest → rest.length < k → i ≤ s.size → fr ≤ i → done.length + rest.length < 8796093022208 →
    ∃ r, Pwords.foliotref20_words.l0 k s done (fr : Int) (i : Int) = some (done ++ r) ∧ r.map (·.data.toList) = splitP 32 ((s.data.toList.take i).drop fr) rest := by
  intro rest
  have hl : s.data.toList.length = s.size := by rw [Array.length_toList]; rfl
  induction rest with
  | nil =>
    intro k i fr done hd hk hi hf hn
    obtain ⟨k, rfl⟩ : ∃ m, k = m + 1 := ⟨k - 1, by omega⟩
    have he : i = s.size := by
      have := List.drop_eq_nil_iff.1 hd
      omega
    simp only [List.length_nil] at hn
    refine ⟨[s.extract fr s.size], ?_, ?_⟩
    · simp only [Pwords.foliotref20_words.l0]
      rw [if_neg (by omega), if_pos (by omega), if_pos (by omega), if_pos (by omega)]
      simp
    · simp only [List.map_cons, List.map_nil, splitP]
      rw [Lib.extract_data, he, List.take_of_length_le (l := s.data.toList) (by omega), List.take_of_length_le (by simp)]
  | cons a r ih =>
    intro k i fr done hd hk hi hf hn
    obtain ⟨k, rfl⟩ : ∃ m, k = m + 1 := ⟨k - 1, by omega⟩
    obtain ⟨hbt, hi', hd'⟩ := bt_drop s i a r hd
    simp only [List.length_cons] at hn hk
    have htake : s.data.toList.take (i + 1) = s.data.toList.take i ++ [a] := by
      rw [List.take_add_one]
      have : s.data.toList[i]? = some a := by
        have := congrArg List.head? hd
        simpa using this
      rw [this]; rfl
    simp only [Pwords.foliotref20_words.l0]
    rw [if_pos (by omega), if_pos (by omega), hbt]
    by_cases hac : a = 32
    · subst hac
      rw [if_pos (by decide), if_pos (by omega), if_pos (by omega), if_pos (by omega), if_pos (by omega), wrap_id (by omega) (by omega), show (i : Int) + 1 = ((i + 1 : Nat) : Int) by omega]
      obtain ⟨q, hq, hm⟩ := ih k (i + 1) (i + 1) (done ++ [s.extract fr i]) hd' (by omega) (by omega) (by omega) (by simp; omega)
      simp only [Int.toNat_natCast]
      refine ⟨s.extract fr i :: q, by rw [hq]; simp, ?_⟩
      simp only [List.map_cons]
      rw [splitP, if_pos rfl, hm, Lib.extract_data]
      congr 1
      · rw [List.drop_take]
      · rw [List.drop_eq_nil_of_le (by simp; omega)]
    · have hne : ¬ ((a.toNat : Int) = 32) := by
        intro h
        exact hac (UInt8.toNat_inj.1 (by simp; omega))
      rw [if_neg hne, wrap_id (by omega) (by omega), show (i : Int) + 1 = ((i + 1 : Nat) : Int) by omega]
      obtain ⟨q, hq, hm⟩ := ih k (i + 1) fr done hd' (by omega) (by omega) (by omega) (by omega)
      refine ⟨q, hq, ?_⟩
      rw [hm, splitP, if_neg hac, htake, List.drop_append_of_le_length (by simp; omega)]
theorem words_ref (s : ByteArray) (hs : s.size ≤ 4294967296) (k : Nat) (hk : s.size + 1 ≤ k) : ∃ r, Pwords.foliotref20_words.f k s = some r ∧ r.map (·.data.toList) = splitP 32 [] s.data.toList := by
  have hl : s.data.toList.length = s.size := by rw [Array.length_toList]; rfl
  obtain ⟨r, h1, h2⟩ := words_loop s hs s.data.toList k 0 0 [] (by simp) (by omega) (by omega) (by omega) (by rw [List.length_nil]; omega)
  exact ⟨r, h1, h2⟩

/-- A number as the reference reads it: twelve bytes at most, what are none are passed over. -/
def rnumL : List UInt8 → Nat → Int → Int
  | [], _, acc => acc
  | _ :: _, 0, acc => acc
  | c :: r, m + 1, acc => if 48 ≤ c.toNat ∧ c.toNat ≤ 57 then rnumL r m (acc * 10 + ((c.toNat : Int) - 48)) else rnumL r m acc
def rnumP (s : List UInt8) : Int := if s.head? = some 45 then - rnumL s 12 0 else rnumL s 12 0
theorem rnumL_range : ∀ (l : List UInt8) (m : Nat) (acc : Int), 0 ≤ acc → 0 ≤ rnumL l m acc ∧ rnumL l m acc + 1 ≤ (acc + 1) * 10 ^ m := by
  intro l
  induction l with
  | nil =>
    intro m acc h
    have hp : (0 : Int) < 10 ^ m := Int.pow_pos (by decide)
    simp only [rnumL]
    refine ⟨h, ?_⟩
    have h2 : (acc + 1) * 1 ≤ (acc + 1) * 10 ^ m := Int.mul_le_mul_of_nonneg_left (by omega) (by omega)
    omega
  | cons c r ih =>
    intro m acc h
    cases m with
    | zero => simp only [rnumL]; omega
    | succ m =>
      simp only [rnumL]
      have hp : (0 : Int) < 10 ^ m := Int.pow_pos (by decide)
      rw [Int.pow_succ]
      split
      · rename_i hc
        obtain ⟨h1, h2⟩ := ih m (acc * 10 + ((c.toNat : Int) - 48)) (by omega)
        refine ⟨h1, Int.le_trans h2 ?_⟩
        rw [Int.mul_comm (10 ^ m) 10, ← Int.mul_assoc]
        exact Int.mul_le_mul_of_nonneg_right (by omega) (by omega)
      · obtain ⟨h1, h2⟩ := ih m acc h
        refine ⟨h1, Int.le_trans h2 ?_⟩
        rw [Int.mul_comm (10 ^ m) 10, ← Int.mul_assoc]
        exact Int.mul_le_mul_of_nonneg_right (by omega) (by omega)
theorem rnumP_range (s : List UInt8) : -9223372036854775808 ≤ rnumP s ∧ rnumP s ≤ 9223372036854775807 := by
  have h := rnumL_range s 12 0 (by decide)
  have e : ((0 : Int) + 1) * 10 ^ 12 = 1000000000000 := by decide
  rw [e] at h
  unfold rnumP
  split <;> omega
theorem number_loop (s : ByteArray) (hs : s.size ≤ 4294967296) (b : Bool) : ∀ (rest : List UInt8) (k i : Nat) (n : Int), s.data.toList.drop i = rest → 2 * rest.length + 2 ≤ k → i ≤ s.size → i ≤ 12 → 0 ≤ n → (n + 1) * 10 ^ (12 - i) ≤ 1000000000000 →
    Pnumber.foliotref20_number.l0 k s n b (i : Int) = some (if b = true then - rnumL rest (12 - i) n else rnumL rest (12 - i) n) := by
  intro rest
  have hl : s.data.toList.length = s.size := by rw [Array.length_toList]; rfl
  have hend : ∀ (k : Nat) (n : Int) (i : Int), 0 ≤ n → n < 1000000000000 → Pnumber.foliotref20_number.j2 (k + 1) s n b i false = some (if b = true then -n else n) := by
    intro k n i h0 h1
    simp only [Pnumber.foliotref20_number.j2, Bool.false_eq_true, if_false]
    rw [wrap_id (by omega) (by omega)]
    split <;> rfl
  have hle : ∀ (n : Int) (j : Nat), 0 ≤ n → (n + 1) * 10 ^ j ≤ 1000000000000 → n < 1000000000000 := by
    intro n j h0 h1
    have hp : (0 : Int) < 10 ^ j := Int.pow_pos (by decide)
    have : (n + 1) * 1 ≤ (n + 1) * 10 ^ j := Int.mul_le_mul_of_nonneg_left (by omega) (by omega)
    omega
  induction rest with
  | nil =>
    intro k i n hd hk hi h12 h0 hn
    obtain ⟨k, rfl⟩ : ∃ m, k = m + 2 := ⟨k - 2, by omega⟩
    have he : i = s.size := by
      have := List.drop_eq_nil_iff.1 hd
      omega
    simp only [Pnumber.foliotref20_number.l0]
    rw [if_neg (by omega), hend k n i h0 (hle n _ h0 hn)]
    simp only [rnumL]
  | cons c r ih =>
    intro k i n hd hk hi h12 h0 hn
    simp only [List.length_cons] at hk
    obtain ⟨k, rfl⟩ : ∃ m, k = m + 2 := ⟨k - 2, by omega⟩
    obtain ⟨hbt, hi', hd'⟩ := bt_drop s i c r hd
    simp only [Pnumber.foliotref20_number.l0]
    rw [if_pos (by omega)]
    rcases Nat.lt_or_ge i 12 with h | h
    · rw [decide_eq_true (by omega)]
      simp only [Pnumber.foliotref20_number.j2, if_true]
      rw [if_pos (by omega), if_pos (by omega), hbt, wrap_id (x := (i : Int) + 1) (by omega) (by omega), show (i : Int) + 1 = ((i + 1 : Nat) : Int) by omega]
      obtain ⟨m, hm⟩ : ∃ m, 12 - i = m + 1 := ⟨12 - i - 1, by omega⟩
      have hm' : 12 - (i + 1) = m := by omega
      rw [hm] at hn ⊢
      have hp : (0 : Int) < 10 ^ m := Int.pow_pos (by decide)
      rw [Int.pow_succ, Int.mul_comm (10 ^ m) 10, ← Int.mul_assoc] at hn
      have hn10 : (n + 1) * 10 ≤ 1000000000000 := by
        have : ((n + 1) * 10) * 1 ≤ ((n + 1) * 10) * 10 ^ m := Int.mul_le_mul_of_nonneg_left (by omega) (by omega)
        omega
      by_cases h1 : 48 ≤ c.toNat
      · rw [if_pos (by omega)]
        by_cases h2 : c.toNat ≤ 57
        · have hr : rnumL (c :: r) (m + 1) n = rnumL r m (n * 10 + ((c.toNat : Int) - 48)) := by rw [rnumL, if_pos ⟨h1, h2⟩]
          rw [hr, if_pos (by omega), wrap_id (x := n * 10) (by omega) (by omega), show ((c.toNat : Int) - 48) % 256 = (c.toNat : Int) - 48 by omega, wrap_id (by omega) (by omega)]
          rw [ih k (i + 1) _ hd' (by omega) (by omega) (by omega) (by omega) (by
            rw [hm']
            exact Int.le_trans (Int.mul_le_mul_of_nonneg_right (by omega) (by omega)) hn)]
          rw [hm']
        · have hr : rnumL (c :: r) (m + 1) n = rnumL r m n := by rw [rnumL, if_neg (by omega)]
          rw [hr, if_neg (by omega), ih k (i + 1) n hd' (by omega) (by omega) (by omega) h0 (by
            rw [hm']
            exact Int.le_trans (Int.mul_le_mul_of_nonneg_right (by omega) (by omega)) hn), hm']
      · have hr : rnumL (c :: r) (m + 1) n = rnumL r m n := by rw [rnumL, if_neg (by omega)]
        rw [hr, if_neg (by omega), ih k (i + 1) n hd' (by omega) (by omega) (by omega) h0 (by
            rw [hm']
            exact Int.le_trans (Int.mul_le_mul_of_nonneg_right (by omega) (by omega)) hn), hm']
    · rw [decide_eq_false (by omega), hend k n i h0 (hle n _ h0 hn)]
      obtain rfl : i = 12 := by omega
      simp only [Nat.sub_self, rnumL]
theorem number_ref (s : ByteArray) (hs : s.size ≤ 4294967296) (k : Nat) (hk : 2 * s.size + 3 ≤ k) : Pnumber.foliotref20_number.f k s = some (rnumP s.data.toList) := by
  have hl : s.data.toList.length = s.size := by rw [Array.length_toList]; rfl
  obtain ⟨k, rfl⟩ : ∃ m, k = m + 1 := ⟨k - 1, by omega⟩
  have h := fun b => number_loop s hs b s.data.toList k 0 0 (by simp) (by omega) (by omega) (by decide) (by decide) (by decide)
  unfold Pnumber.foliotref20_number.f rnumP
  by_cases h0 : s.size = 0
  · rw [if_neg (by omega)]
    have hnil : s.data.toList = [] := List.eq_nil_of_length_eq_zero (by omega)
    have h := h false
    simp only [Pnumber.foliotref20_number.j0]
    refine h.trans ?_
    rw [hnil]
    simp [rnumL]
  · rw [if_pos (by omega), if_pos (by omega)]
    simp only [Pnumber.foliotref20_number.j0]
    refine (h _).trans ?_
    match hq : s.data.toList with
    | [] => rw [hq] at hl; simp at hl; omega
    | c :: r =>
      obtain ⟨hbt, _, _⟩ := bt_drop s 0 c r (by simpa using hq)
      have hbt : bt s 0 = (c.toNat : Int) := hbt
      rw [hbt]
      by_cases hc : c = 45
      · subst hc
        simp
      · have : ((c.toNat : Int) == 45) = false := beq_eq_false_iff_ne.2 (fun h => hc (UInt8.toNat_inj.1 (by simp; omega)))
        rw [this]
        simp [hc]
/-! ### hex -/
def rdig (c : UInt8) : Int := if 48 ≤ c.toNat ∧ c.toNat ≤ 57 then (c.toNat : Int) - 48 else if 97 ≤ c.toNat ∧ c.toNat ≤ 102 then (c.toNat : Int) - 87 else 0
theorem rdig_range (c : UInt8) : 0 ≤ rdig c ∧ rdig c < 16 := by
  unfold rdig
  split
  · omega
  · split <;> omega
def rhexP : List UInt8 → List Int → List Int
  | a :: b :: r, acc => rhexP r (acc ++ [rdig a * 16 + rdig b])
  | _, acc => acc
theorem digit_ref (c : UInt8) (k : Nat) (hk : 1 ≤ k) : Phex.foliotref20_digit.f k (c.toNat : Int) = some (rdig c) := by
  obtain ⟨k, rfl⟩ : ∃ m, k = m + 1 := ⟨k - 1, by omega⟩
  have hc := c.toNat_lt
  unfold Phex.foliotref20_digit.f rdig
  simp only [Phex.foliotref20_digit.j0]
  by_cases h1 : 48 ≤ c.toNat
  · rw [if_pos (by omega)]
    by_cases h2 : c.toNat ≤ 57
    · rw [if_pos (decide_eq_true (by omega)), if_pos ⟨h1, h2⟩]
      congr 1; omega
    · rw [if_neg (by simp; omega), if_neg (show ¬ (48 ≤ c.toNat ∧ c.toNat ≤ 57) by omega)]
      by_cases h3 : 97 ≤ c.toNat
      · rw [if_pos (by omega)]
        by_cases h4 : c.toNat ≤ 102
        · rw [if_pos (by omega), if_pos ⟨h3, h4⟩]
          congr 1; omega
        · rw [if_neg (by omega), if_neg (by omega)]
      · rw [if_neg (by omega), if_neg (by omega)]
  · rw [if_neg (by omega), if_neg (by simp), if_neg (by omega), if_neg (show ¬ (48 ≤ c.toNat ∧ c.toNat ≤ 57) by omega), if_neg (by omega)]
theorem hex_loop (s : ByteArray) (hs : s.size ≤ 4294967296) : ∀ (m : Nat) (rest : List UInt8) (k i : Nat) (acc : List Int), rest.length ≤ m → s.data.toList.drop i = rest → rest.length + 2 ≤ k → i ≤ s.size → acc.length + rest.length < 140737488355328 →
    Phex.foliotref20_hex.l0 k s acc (i : Int) = some (rhexP rest acc) := by
  have hl : s.data.toList.length = s.size := by rw [Array.length_toList]; rfl
  intro m
  induction m with
  | zero =>
    intro rest k i acc hm hd hk hi hn
    obtain ⟨k, rfl⟩ : ∃ m, k = m + 1 := ⟨k - 1, by omega⟩
    obtain rfl : rest = [] := List.eq_nil_of_length_eq_zero (by omega)
    have he : i = s.size := by
      have := List.drop_eq_nil_iff.1 hd
      omega
    simp only [Phex.foliotref20_hex.l0]
    rw [wrap_id (by omega) (by omega), if_neg (by omega)]
    simp only [rhexP]
  | succ m ih =>
    intro rest k i acc hm hd hk hi hn
    obtain ⟨k, rfl⟩ : ∃ m, k = m + 1 := ⟨k - 1, by omega⟩
    match rest, hd with
    | [], hd =>
      have he : i = s.size := by
        have := List.drop_eq_nil_iff.1 hd
        omega
      simp only [Phex.foliotref20_hex.l0]
      rw [wrap_id (by omega) (by omega), if_neg (by omega)]
      simp only [rhexP]
    | [a], hd =>
      obtain ⟨_, hi', hd'⟩ := bt_drop s i a [] hd
      have he : i + 1 = s.size := by
        have := List.drop_eq_nil_iff.1 hd'
        omega
      simp only [Phex.foliotref20_hex.l0]
      rw [wrap_id (by omega) (by omega), if_neg (by omega)]
      simp only [rhexP]
    | a :: b :: r, hd =>
      simp only [List.length_cons] at hm hk hn
      obtain ⟨hba, hi', hd'⟩ := bt_drop s i a (b :: r) hd
      obtain ⟨hbb, hi'', hd''⟩ := bt_drop s (i + 1) b r hd'
      have hra := rdig_range a
      have hrb := rdig_range b
      simp only [Phex.foliotref20_hex.l0]
      rw [wrap_id (x := (i : Int) + 1) (by omega) (by omega), if_pos (by omega), if_pos (by omega), if_pos (by omega), hba, digit_ref a k (by omega), Option.bind_some, if_pos (by omega), show (i : Int) + 1 = ((i + 1 : Nat) : Int) by omega, hbb, digit_ref b k (by omega), Option.bind_some,
        if_pos (by omega), wrap_id (x := (i : Int) + 2) (by omega) (by omega), show (i : Int) + 2 = ((i + 1 + 1 : Nat) : Int) by omega]
      rw [ih r k (i + 1 + 1) _ (by omega) hd'' (by omega) (by omega) (by simp; omega)]
      rw [rhexP, show ((rdig a * 16) % 256 + rdig b) % 256 = rdig a * 16 + rdig b by omega]
theorem hex_ref (s : ByteArray) (hs : s.size ≤ 4294967296) (k : Nat) (hk : s.size + 2 ≤ k) : Phex.foliotref20_hex.f k s = some (rhexP s.data.toList []) := by
  have hl : s.data.toList.length = s.size := by rw [Array.length_toList]; rfl
  exact hex_loop s hs s.size s.data.toList k 0 [] (by omega) (by simp) (by omega) (by omega) (by rw [List.length_nil]; omega)
end Go.Proofs.YtdndmbcejoodpaaGreatDoor
namespace Go.Proofs.YtdndmbcejoodpaaGreatDoor
open Go.RowKit Go.Proofs.YtdndmbcejoodpaaGreatDoorW.PrintWords Go.Proofs.YtdndmbcejoodpaaGreatDoorW.PrintLast Go.Proofs.YtdndmbcejoodpaaGreatDoorW.PrintMore
set_option linter.unusedVariables false
set_option linter.unusedSimpArgs false
theorem words_calls (s : List UInt8) (w : World) (hs : s.length ≤ 4294967296) : Calls Tryz.prog 39 #[.string (ba s)] w fun e w' => ∃ (v : Value) (ps : List ByteArray), e = .returned v ∧ ps.map (fun b : ByteArray => b.data.toList) = splitP 32 [] s ∧ w'.ownsRow w.heap.size 9 1 v ps.length (ps.map Value.string) ∧ Below w.heap.size w w' := by
  have hsz : (ba s).size = s.length := by simp [ba, ByteArray.size]
  obtain ⟨r, h1, h2⟩ := words_ref (ba s) (by omega) ((ba s).size + 1) (Nat.le_refl _)
  refine (Pwords.foliotref20_words.calls _ (ba s) r w h1).mono ?_
  rintro e w' ⟨v, rfl, hR, hb⟩
  exact ⟨v, r, rfl, by rw [h2]; simp [ba], Kd.own_of_R hR, hb⟩
theorem rnum_calls (s : List UInt8) (w : World) (hs : s.length ≤ 4294967296) : Calls Tryz.prog 40 #[.string (ba s)] w fun e w' => e = .returned (.int .i64 (rnumP s)) ∧ Below w.heap.size w w' := by
  have hsz : (ba s).size = s.length := by simp [ba, ByteArray.size]
  refine (Pnumber.foliotref20_number.calls _ (ba s) _ w (number_ref (ba s) (by omega) _ (Nat.le_refl _))).mono ?_
  rintro e w' ⟨rfl, hd⟩
  exact ⟨by simp [ba], hd.below⟩
theorem rhex_calls (s : List UInt8) (w : World) (hs : s.length ≤ 4294967296) : Calls Tryz.prog 42 #[.string (ba s)] w fun e w' => ∃ v, e = .returned v ∧ w'.ownsRow w.heap.size 5 1 v (rhexP s []).length (nums .u8 (rhexP s [])) ∧ Below w.heap.size w w' := by
  have hsz : (ba s).size = s.length := by simp [ba, ByteArray.size]
  refine (Phex.foliotref20_hex.calls _ (ba s) _ w (hex_ref (ba s) (by omega) _ (Nat.le_refl _))).mono ?_
  rintro e w' ⟨v, rfl, hR, hb⟩
  have hd : (ba s).data.toList = s := by simp [ba]
  rw [hd] at hR
  exact ⟨v, rfl, Kd.own_of_R hR, hb⟩
theorem rhexP_len : ∀ (l : List UInt8) (acc : List Int), (rhexP l acc).length ≤ acc.length + l.length
  | a :: b :: r, acc => by
    have := rhexP_len r (acc ++ [rdig a * 16 + rdig b])
    rw [rhexP]
    simp only [List.length_append, List.length_cons, List.length_nil] at this ⊢
    omega
  | [], acc => by rw [rhexP] <;> simp
  | [_], acc => by rw [rhexP] <;> simp
theorem rhexP_range : ∀ (l : List UInt8) (acc : List Int), (∀ b ∈ acc, 0 ≤ b ∧ b < 256) → ∀ b ∈ rhexP l acc, 0 ≤ b ∧ b < 256
  | a :: b :: r, acc => by
    intro h
    rw [rhexP]
    refine rhexP_range r _ (fun x hx => ?_)
    rcases List.mem_append.1 hx with hx | hx
    · exact h x hx
    · simp only [List.mem_singleton] at hx
      rw [hx]
      have h1 := rdig_range a
      have h2 := rdig_range b
      omega
  | [], acc => by intro h; rw [rhexP] <;> first | exact h | simp
  | [_], acc => by intro h; rw [rhexP] <;> first | exact h | simp
theorem rhexP_ok (l : List UInt8) : ∀ b ∈ rhexP l [], 0 ≤ b ∧ b < 256 := rhexP_range l [] (fun b h => absurd h (by simp))
theorem kindUpTo_word (t : List UInt8) : ∀ (m : Nat), 1 ≤ kindUpTo t m → wordP (kindUpTo t m) = t := by
  intro m
  induction m with
  | zero => intro h; simp [kindUpTo] at h
  | succ m ih =>
    intro h
    unfold kindUpTo at h ⊢
    split at h
    · rename_i hc
      rw [if_pos hc]
      exact hc
    · rename_i hc
      rw [if_neg hc]
      exact ih h
theorem kindUpTo_none (t : List UInt8) : ∀ (m : Nat), kindUpTo t m = 0 → ∀ j : Nat, j < m → wordP ((j : Int) + 1) ≠ t := by
  intro m
  induction m with
  | zero => intro _ j hj; omega
  | succ m ih =>
    intro h j hj
    unfold kindUpTo at h
    split at h
    · omega
    · rename_i hc
      rcases Nat.lt_or_ge j m with h1 | h1
      · exact ih h j h1
      · obtain rfl : j = m := by omega
        exact hc
/-- What the pieces of a line say to the reference. -/
def rdecW (ws : List (List UInt8)) : Int × Int × Int × Int × Int × List Int × Int :=
  let k := kindUpTo (ws[0]?.getD []) 8
  let v := rnumP (ws[1]?.getD [])
  if k = 2 then (2, v, (addrP (ws[2]?.getD [])).1, (addrP (ws[3]?.getD [])).1, 0, rhexP (ws[4]?.getD []) [], 0)
  else if k = 3 then (3, v, 0, 0, rnumP (ws[2]?.getD []), rhexP (ws[3]?.getD []) [], 0)
  else if k = 4 then (4, v, 0, 0, rnumP (ws[2]?.getD []), [], rnumP (ws[3]?.getD []))
  else if k = 5 ∨ k = 6 ∨ k = 8 then (k, v, 0, 0, 0, [], rnumP (ws[2]?.getD []))
  else (k, v, 0, 0, 0, [], 0)
def rdecP (s : List UInt8) : Int × Int × Int × Int × Int × List Int × Int := rdecW (splitP 32 [] s)
def RDecR (s : List UInt8) (e : Ending) (w' : World) : Prop :=
  match rdecP s with
  | (k, wait, frm, dst, unit, l, n) =>
    if encP k wait frm dst unit l n = (s, 0) then ∃ A m c, e = .returned (.tuple #[evV k wait frm dst unit A m c n, .int .i64 0]) ∧ Kd.C (Kd.int .u8) w' A m l ∧ m ≤ c
    else e = .returned (.tuple #[evV 0 0 0 0 0 none 0 0 0, .int .i64 220])
theorem splitP_count (c : UInt8) : ∀ (l cur : List UInt8), (splitP c cur l).length ≤ l.length + 1 := by
  intro l
  induction l with
  | nil => intro cur; simp [splitP]
  | cons a r ih =>
    intro cur
    unfold splitP
    split
    · have := ih []
      simp only [List.length_cons] at this ⊢
      omega
    · have := ih (cur ++ [a])
      simp only [List.length_cons] at this ⊢
      omega
/-- What the reference's DecodeEvent holds while it reads. -/
structure RecW (B0 R K : Nat) (ws : List (List UInt8)) (w0 w : World) : Prop where
  laid0 : Laid w0
  b0 : w.heap[B0]? = some (.cells #[.int .i64 0, .int .i64 0, .int .u32 0, .int .u32 0, .int .i64 0, .slice none 0 0, .int .i64 0] 25 (0, 0))
  row : ∀ (j : Nat) (p : List UInt8), ws[j]? = some p → w.cell? ⟨R, j, none⟩ = some (.string (ba p))
  le0 : w0.heap.size ≤ K
  lt0 : B0 < K
  ltR : R < K
  below : Below w0.heap.size w0 w
theorem RecW.next {B0 R K : Nat} {ws : List (List UInt8)} {w0 w w' : World} (h : RecW B0 R K ws w0 w) (hb : Below w.heap.size w w') (hK : K ≤ w.heap.size) : RecW B0 R K ws w0 w' :=
  ⟨h.laid0, (hb.block _ (by have := h.lt0; omega)).trans h.b0, fun j p hp => cell_belowB (h.row j p hp) hb (by have := h.ltR; omega), h.le0, h.lt0, h.ltR, h.below.trans (hb.mono h.below.size)⟩
theorem RecW.put {B0 R K : Nat} {ws : List (List UInt8)} {w0 w : World} (h : RecW B0 R K ws w0 w) (j : Nat) (v : Value) : RecW B0 R K ws w0 (w.setCell ⟨K, j, none⟩ v) :=
  ⟨h.laid0, blk_far h.b0 (p := ⟨K, j, none⟩) (by have := h.lt0; show B0 ≠ K; omega) v,
    fun i p hp => (World.cell?_setCell_far w ⟨K, j, none⟩ ⟨R, i, none⟩ v (by have := h.ltR; show K ≠ R; omega)).trans (h.row i p hp), h.le0, h.lt0, h.ltR, h.below.setCell (p := ⟨K, j, none⟩) h.le0 v⟩
theorem RecW.laid {B0 R K : Nat} {ws : List (List UInt8)} {w0 w : World} (h : RecW B0 R K ws w0 w) : Laid w := h.laid0.on h.below
theorem RecW.raise {B0 R K K' : Nat} {ws : List (List UInt8)} {w0 w : World} (h : RecW B0 R K ws w0 w) (hK : K ≤ K') : RecW B0 R K' ws w0 w :=
  ⟨h.laid0, h.b0, h.row, Nat.le_trans h.le0 hK, Nat.lt_of_lt_of_le h.lt0 hK, Nat.lt_of_lt_of_le h.ltR hK, h.below⟩
theorem pad_get (l : List (List UInt8)) (j i : Nat) (p : List UInt8) (h : (l ++ List.replicate j [])[i]? = some p) : l[i]?.getD [] = p := by
  rcases Nat.lt_or_ge i l.length with h1 | h1
  · rw [List.getElem?_append_left h1] at h
    rw [h]; rfl
  · rw [List.getElem?_append_right h1] at h
    have : p = [] := by
      have := List.mem_of_getElem? h
      exact (List.mem_replicate.1 this).2
    rw [List.getElem?_eq_none h1, this]; rfl
theorem lit_ne {t u : List UInt8} (h : u ≠ t) : ((ba t).toList == (ba u).toList) = false := by
  simp only [ba, ByteArray.toList_mk]
  exact beq_eq_false_iff_ne.2 (fun e => h e.symm)
theorem lit_eq {t u : List UInt8} (h : u = t) : ((ba t).toList == (ba u).toList) = true := by
  rw [h]; simp
set_option maxRecDepth 100000 in
set_option maxHeartbeats 1000000 in
theorem rdecode_calls (s : List UInt8) (w : World) (hs : s.length ≤ 1048576) (HL : Laid w) :
    Calls Tryz.prog 13 #[.string (ba s)] w fun e w' => Below w.heap.size w w' ∧ RDecR s e w' := by
  have hwd := fun W => words_calls s W (by omega)
  have HSZ := Aside0.mk hs
  have HLA := Aside0.mk HL
  clear hs HL
  go_enter Tryz.func13, Tryz.ntmps13
  go_wp2_with ((with_reducible refine (hwd _).mono ?_); rintro e w1 ⟨v, ps, rfl, hps, ho, hb1⟩)
  obtain ⟨wA, hwA⟩ : ∃ x, x = w.alloc (.cells #[.int .i64 0, .int .i64 0, .int .u32 0, .int .u32 0, .int .i64 0, .slice none 0 0, .int .i64 0] 25) := ⟨_, rfl⟩
  have hA0 : wA.heap[w.heap.size]? = some (.cells #[.int .i64 0, .int .i64 0, .int .u32 0, .int .u32 0, .int .i64 0, .slice none 0 0, .int .i64 0] 25 (0, 0)) := by rw [hwA]; exact heap_alloc_new w _
  have hAs : wA.heap.size = w.heap.size + 1 := by rw [hwA]; simp
  have hAb : Below w.heap.size w wA := by rw [hwA]; exact below_alloc (Below.refl _ _) _
  rw [← hwA] at ho hb1
  clear hwA
  have HO := Aside0.mk ho
  have HA := Aside0.mk (And.intro hA0 (And.intro hAs hAb))
  have HPS := Aside0.mk hps
  have hpl : ps.length ≤ 1048577 := by
    have h1 := congrArg List.length hps
    have h2 := splitP_count 32 s []
    have := HSZ.out
    rw [List.length_map] at h1
    omega
  have hp0 : ps.length ≠ 0 := fun h => splitP_ne 32 s [] (by rw [← hps, List.eq_nil_of_length_eq_zero h]; rfl)
  clear ho hA0 hAs hAb hps hwd
  go_loopw [4] (fun v4 wr => ∃ (j : Nat) (qs : List ByteArray), Aside0 (qs.map (fun b : ByteArray => b.data.toList) = splitP 32 [] s ++ List.replicate j []) ∧ Aside0 (wr.ownsRow wA.heap.size 9 1 v4 qs.length (qs.map Value.string)) ∧ Below wA.heap.size wA wr ∧ qs.length ≤ 1048582) (fun v4 _ => match v4 with | .slice _ n _ => 5 - n | _ => 0)
  case atStart => exact ⟨0, ps, ⟨by rw [HPS.out]; simp⟩, HO, hb1, by omega⟩
  case round =>
    clear HO hb1 HPS
    obtain ⟨j, qs, HQ, HO, hB, hql⟩ := hrel
    obtain ⟨A, c, rfl⟩ := own_slice HO.out
    by_cases hlt : qs.length < 5
    · have hltz : (qs.length : Int) < 5 := by omega
      have hsz := hB.size
      go_wp2_with (refine gate_builtin (b := .append) rfl ?_; go_must ((refine print_append (w0 := wA) wA.heap.size rfl (.tmp 13) (.tmp 14) 44 9 (.string ⟨#[]⟩) 16 rfl Tryz.underlying44 str_info rfl (by decide) (.slice A qs.length c) (qs.map Value.string) (.string ⟨#[]⟩) rfl rfl rfl (by rw [List.length_map]; exact HO.out) hB hsz (by rw [List.length_map]; omega) ?_; intro v1 w3 hown hb3 hg hat)))
      obtain ⟨A1, c1, rfl⟩ := own_slice hown
      go_roundw
      case measure => simp; omega
      case rel =>
        refine ⟨j + 1, qs ++ [⟨#[]⟩], ⟨?_⟩, ⟨?_⟩, hb3, by simp; omega⟩
        · rw [List.map_append, HQ.out, List.replicate_succ', List.append_assoc]
          rfl
        · simpa using hown
    · -- the exit
      have hown := HO.out
      obtain ⟨R, hA⟩ : ∃ R, A = some ⟨R, 0, none⟩ := by
        rcases hown.2 with ⟨h, h'⟩ | ⟨g, cap, cur, h, _⟩
        · omega
        · injection h with h1 h2 h3
          exact ⟨g, h1⟩
      subst hA
      obtain ⟨ws, hws⟩ : ∃ ws, ws = qs.map (fun b : ByteArray => b.data.toList) := ⟨_, rfl⟩
      have hrow : ∀ (j : Nat) (p : List UInt8), ws[j]? = some p → wr.cell? ⟨R, j, none⟩ = some (.string (ba p)) := by
        intro j p hp
        rw [hws, List.getElem?_map, Option.map_eq_some_iff] at hp
        obtain ⟨b, hb, rfl⟩ := hp
        have h := hown.cells (g := R) rfl j (.string b) (by rw [List.getElem?_map, hb]; rfl)
        have e : (⟨R, 0, none⟩ : Addr).add j = ⟨R, j, none⟩ := by cases j <;> simp [Addr.add]
        rw [e] at h
        rw [h]
        simp [ba]
      have hR : R < wr.heap.size := own_lt hown R rfl
      obtain ⟨hA0, hAs, hAb⟩ := HA.out
      have hst : RecW w.heap.size R wr.heap.size ws w wr := ⟨HLA.out, (hB.block _ (by omega)).trans hA0, hrow, by have := hB.size; omega, by have := hB.size; omega, hR, hAb.trans (hB.mono (by omega))⟩
      have hwl : ws.length = qs.length := by rw [hws, List.length_map]
      have hws2 : ws = splitP 32 [] s ++ List.replicate j [] := hws.trans HQ.out
      obtain ⟨p0, hp0⟩ : ∃ p, ws[0]? = some p := ⟨_, List.getElem?_eq_getElem (by omega)⟩
      obtain ⟨p1, hp1⟩ : ∃ p, ws[1]? = some p := ⟨_, List.getElem?_eq_getElem (by omega)⟩
      obtain ⟨p2, hp2⟩ : ∃ p, ws[2]? = some p := ⟨_, List.getElem?_eq_getElem (by omega)⟩
      obtain ⟨p3, hp3⟩ : ∃ p, ws[3]? = some p := ⟨_, List.getElem?_eq_getElem (by omega)⟩
      obtain ⟨p4, hp4⟩ : ∃ p, ws[4]? = some p := ⟨_, List.getElem?_eq_getElem (by omega)⟩
      have hpad : ∀ (i : Nat) (p : List UInt8), ws[i]? = some p → (splitP 32 [] s)[i]?.getD [] = p := by
        intro i p hp
        rw [hws2] at hp
        exact pad_get _ j i p hp
      have hplen : ∀ (i : Nat) (p : List UInt8), ws[i]? = some p → p.length ≤ 1048576 := by
        intro i p hp
        have h := hpad i p hp
        have h2 : p = [] ∨ p ∈ splitP 32 [] s := by
          cases hq : (splitP 32 [] s)[i]? with
          | none => rw [hq] at h; exact .inl h.symm
          | some x => rw [hq] at h; exact .inr (by rw [← h]; exact List.mem_of_getElem? hq)
        rcases h2 with h2 | h2
        · rw [h2]; simp
        · have := splitP_le 32 s [] p h2
          have := HSZ.out
          simp only [List.length_nil] at *
          omega
      have hs1 := hplen 1 p1 hp1
      have hs2 := hplen 2 p2 hp2
      have hs3 := hplen 3 p3 hp3
      have hs4 := hplen 4 p4 hp4
      have HP0 := Aside0.mk (hpad 0 p0 hp0)
      have HP1 := Aside0.mk (hpad 1 p1 hp1)
      have HP2 := Aside0.mk (hpad 2 p2 hp2)
      have HP3 := Aside0.mk (hpad 3 p3 hp3)
      have HP4 := Aside0.mk (hpad 4 p4 hp4)
      have hl1 := fun W => rnum_calls p1 W (by omega)
      have hl2 := fun W => rnum_calls p2 W (by omega)
      have hl3 := fun W => rnum_calls p3 W (by omega)
      have ha2 : ∀ W, Calls Tryz.prog 41 #[.string (ba p2)] W fun e w' => (∃ x, e = .returned (.tuple #[.int .u32 (addrP p2).1, .int .i64 x])) ∧ Below W.heap.size W w' := fun W => (refAddr_calls (ba p2) W (by simp [ba, ByteArray.size]; omega)).mono fun _ _ ⟨he, hb⟩ => ⟨⟨(addrP p2).2, by rw [he]; simp [addrV, ba]⟩, hb⟩
      have ha3 : ∀ W, Calls Tryz.prog 41 #[.string (ba p3)] W fun e w' => (∃ x, e = .returned (.tuple #[.int .u32 (addrP p3).1, .int .i64 x])) ∧ Below W.heap.size W w' := fun W => (refAddr_calls (ba p3) W (by simp [ba, ByteArray.size]; omega)).mono fun _ _ ⟨he, hb⟩ => ⟨⟨(addrP p3).2, by rw [he]; simp [addrV, ba]⟩, hb⟩
      have hb3 := fun W => rhex_calls p3 W (by omega)
      have hb4 := fun W => rhex_calls p4 W (by omega)
      have r0 := hrow 0 p0 hp0
      have r1 := hrow 1 p1 hp1
      have hm0 : (0 : Int) < (qs.length : Int) := by omega
      have hm1 : (1 : Int) < (qs.length : Int) := by omega
      have hm2 : (2 : Int) < (qs.length : Int) := by omega
      have hm3 : (3 : Int) < (qs.length : Int) := by omega
      have hm4 : (4 : Int) < (qs.length : Int) := by omega
      have hltz : ¬ ((qs.length : Int) < 5) := by omega
      have hltb : decide ((qs.length : Int) < 5) = false := decide_eq_false hltz
      have HDA := Aside0.mk hst
      have hKr := kindUpTo_range p0 8
      obtain ⟨K0, hK0⟩ : ∃ x, x = kindUpTo p0 8 := ⟨_, rfl⟩
      have hKw := kindUpTo_word p0 8
      have hKn := kindUpTo_none p0 8
      rw [← hK0] at hKr hKw hKn
      have HTK := Aside0.mk hK0
      clear hst hown hrow hwl hws2 hpad hplen hws hA0 hAs hAb hR HO HQ hB hK0 hlt hpl
      generalize qs.length = M at *
      clear qs
      have hK8 : K0 = 0 ∨ K0 = 1 ∨ K0 = 2 ∨ K0 = 3 ∨ K0 = 4 ∨ K0 = 5 ∨ K0 = 6 ∨ K0 = 7 ∨ K0 = 8 := by omega
      rcases hK8 with rfl | rfl | rfl | rfl | rfl | rfl | rfl | rfl | rfl
      · -- kind 0
        have f1 : ((ba p0).toList == (⟨#[116, 105, 99, 107]⟩ : ByteArray).toList) = false := lit_ne (u := [116, 105, 99, 107]) (by have h := hKn rfl 0 (by decide); simpa [wordP] using h)
        have f2 : ((ba p0).toList == (⟨#[112, 97, 99, 107, 101, 116]⟩ : ByteArray).toList) = false := lit_ne (u := [112, 97, 99, 107, 101, 116]) (by have h := hKn rfl 1 (by decide); simpa [wordP] using h)
        have f3 : ((ba p0).toList == (⟨#[115, 101, 114, 105, 97, 108]⟩ : ByteArray).toList) = false := lit_ne (u := [115, 101, 114, 105, 97, 108]) (by have h := hKn rfl 2 (by decide); simpa [wordP] using h)
        have f4 : ((ba p0).toList == (⟨#[112, 117, 108, 115, 101]⟩ : ByteArray).toList) = false := lit_ne (u := [112, 117, 108, 115, 101]) (by have h := hKn rfl 3 (by decide); simpa [wordP] using h)
        have f5 : ((ba p0).toList == (⟨#[100, 114, 97, 119]⟩ : ByteArray).toList) = false := lit_ne (u := [100, 114, 97, 119]) (by have h := hKn rfl 4 (by decide); simpa [wordP] using h)
        have f6 : ((ba p0).toList == (⟨#[99, 114, 97, 115, 104]⟩ : ByteArray).toList) = false := lit_ne (u := [99, 114, 97, 115, 104]) (by have h := hKn rfl 5 (by decide); simpa [wordP] using h)
        have f7 : ((ba p0).toList == (⟨#[115, 116, 97, 114, 116]⟩ : ByteArray).toList) = false := lit_ne (u := [115, 116, 97, 114, 116]) (by have h := hKn rfl 6 (by decide); simpa [wordP] using h)
        have f8 : ((ba p0).toList == (⟨#[114, 97, 116, 101]⟩ : ByteArray).toList) = false := lit_ne (u := [114, 97, 116, 101]) (by have h := hKn rfl 7 (by decide); simpa [wordP] using h)
        have g1 : ((ba p0).toList == [116, 105, 99, 107]) = false := by simpa using f1
        have g2 : ((ba p0).toList == [112, 97, 99, 107, 101, 116]) = false := by simpa using f2
        have g3 : ((ba p0).toList == [115, 101, 114, 105, 97, 108]) = false := by simpa using f3
        have g4 : ((ba p0).toList == [112, 117, 108, 115, 101]) = false := by simpa using f4
        have g5 : ((ba p0).toList == [100, 114, 97, 119]) = false := by simpa using f5
        have g6 : ((ba p0).toList == [99, 114, 97, 115, 104]) = false := by simpa using f6
        have g7 : ((ba p0).toList == [115, 116, 97, 114, 116]) = false := by simpa using f7
        have g8 : ((ba p0).toList == [114, 97, 116, 101]) = false := by simpa using f8
        clear hKw hKn
        have hdp : rdecP s = (0, rnumP p1, 0, 0, 0, [], 0) := by unfold rdecP; rw [rdecW]; simp [HP0.out, HP1.out, HP2.out, HP3.out, HP4.out, ← HTK.out]
        have hV1r := rnumP_range p1
        obtain ⟨V1, hV1⟩ : ∃ x, x = rnumP p1 := ⟨_, rfl⟩
        rw [← hV1] at hdp hV1r
        simp only [← hV1] at hl1
        have HV1R := Aside0.mk hV1r
        clear hV1 hV1r
        have HDP := Aside0.mk hdp
        clear hdp
        go_wp2_with (
          first
            | (with_reducible refine (hl1 _).mono ?_); rintro e w2 ⟨rfl, hb⟩
              have hR2 := (HDA.out.next hb (Nat.le_refl _)).raise hb.size
              have r0 := (hR2.next (below_alloc (Below.refl w2.heap.size w2) (.cells #[.int .i64 0, .int .i64 V1, .int .u32 0, .int .u32 0, .int .i64 0, .slice none 0 0, .int .i64 0] 25)) (Nat.le_refl _)).row 0 p0 hp0
              have hK0 : (w2.alloc (.cells #[.int .i64 0, .int .i64 V1, .int .u32 0, .int .u32 0, .int .i64 0, .slice none 0 0, .int .i64 0] 25)).heap[w2.heap.size]? = some (.cells #[.int .i64 0, .int .i64 V1, .int .u32 0, .int .u32 0, .int .i64 0, .slice none 0 0, .int .i64 0] 25 (0, 0)) := heap_alloc_new w2 _
              have hD := hR2.next (below_alloc (Below.refl w2.heap.size w2) (.cells #[.int .i64 0, .int .i64 V1, .int .u32 0, .int .u32 0, .int .i64 0, .slice none 0 0, .int .i64 0] 25)) (Nat.le_refl _)
              have hK : (w2.alloc (.cells #[.int .i64 0, .int .i64 V1, .int .u32 0, .int .u32 0, .int .i64 0, .slice none 0 0, .int .i64 0] 25)).heap[w2.heap.size]? = some (.cells #[.int .i64 0, .int .i64 V1, .int .u32 0, .int .u32 0, .int .i64 0, .slice none 0 0, .int .i64 0] 25 (0, 0)) := heap_alloc_new w2 _
              have k0 := (blk_cell hK 0).trans rfl
              have k1 := (blk_cell hK 1).trans rfl
              have k2 := (blk_cell hK 2).trans rfl
              have k3 := (blk_cell hK 3).trans rfl
              have k4 := (blk_cell hK 4).trans rfl
              have k5 := (blk_cell hK 5).trans rfl
              have k6 := (blk_cell hK 6).trans rfl
              have HD2 := Aside0.mk hD
              have HK2 := Aside0.mk hK
              clear hb hR2 hD hK hK0 r1)
        have hev : EvOk _ V1 0 0 0 none 0 0 [] 0 := ⟨HD2.out.laid, Kd.C_nil _ _, fun b h => absurd h (by simp), by decide, HV1R.out, ⟨by decide, by decide⟩, ⟨by decide, by decide⟩, ⟨by decide, by decide⟩, ⟨by decide, by decide⟩⟩
        have henc := refEncode_calls 0 V1 0 0 0 none 0 0 [] 0 _ hev (Nat.le_refl _)
        clear hev
        unfold evV at henc
        refine henc.mono ?_
        rintro e w9 ⟨rfl, hb⟩
        have hD := HD2.out.next hb (Nat.le_of_lt (blk_lt HK2.out))
        have hK := (hb.block _ (blk_lt HK2.out)).trans HK2.out
        have HD9 := Aside0.mk hD
        have HK9 := Aside0.mk hK
        have q0 := (blk_cell hK 0).trans rfl
        have q1 := (blk_cell hK 1).trans rfl
        have q2 := (blk_cell hK 2).trans rfl
        have q3 := (blk_cell hK 3).trans rfl
        have q4 := (blk_cell hK 4).trans rfl
        have q5 := (blk_cell hK 5).trans rfl
        have q6 := (blk_cell hK 6).trans rfl
        have b0 := (blk_cell hD.b0 0).trans rfl
        have b1 := (blk_cell hD.b0 1).trans rfl
        have b2 := (blk_cell hD.b0 2).trans rfl
        have b3 := (blk_cell hD.b0 3).trans rfl
        have b4 := (blk_cell hD.b0 4).trans rfl
        have b5 := (blk_cell hD.b0 5).trans rfl
        have b6 := (blk_cell hD.b0 6).trans rfl
        have z0 := blk_frozen hD.b0 0
        have z1 := blk_frozen hD.b0 1
        have z2 := blk_frozen hD.b0 2
        have z3 := blk_frozen hD.b0 3
        have z4 := blk_frozen hD.b0 4
        have z5 := blk_frozen hD.b0 5
        have z6 := blk_frozen hD.b0 6
        clear hb hD hK henc
        obtain ⟨E, hE⟩ : ∃ E, E = encP 0 V1 0 0 0 [] 0 := ⟨_, rfl⟩
        rw [← hE]
        obtain ⟨E1, E2⟩ := E
        have HE := Aside0.mk hE
        clear hE
        by_cases h2 : E2 = 0
        · by_cases h1 : E1 = s
          · subst h2
            subst h1
            have hss : ((ba E1).toList == (ba E1).toList) = true := by simp
            go_wp2_with fail
            refine bodyPost_ret (results_ct rfl _ _ w.heap.size 25 #[.int .i64 0, .int .i64 V1, .int .u32 0, .int .u32 0, .int .i64 0, .slice none 0 0, .int .i64 0] (0, 0) _ rfl (put7_blk HD9.out.b0 _ _ _ _ _ _ _) Tryz.underlying25 rfl (by kernel_rfl)) rfl ?_
            refine ⟨put7_below HD9.out.below (Nat.le_refl _) _ _ _ _ _ _ _, ?_⟩
            unfold RDecR
            rw [HDP.out]
            show if encP 0 V1 0 0 0 [] 0 = (E1, 0) then _ else _
            rw [if_pos HE.out.symm]
            exact ⟨none, 0, 0, rfl, ⟨Kd.C_nil _ _, Nat.le_refl _⟩⟩
          · subst h2
            have hss : ((ba E1).toList == (ba s).toList) = false := by simp only [ba, ByteArray.toList_mk]; exact beq_eq_false_iff_ne.2 h1
            have H1 := Aside0.mk h1
            clear h1
            go_wp2_with fail
            refine bodyPost_ret (results_ct rfl _ _ w.heap.size 25 #[.int .i64 0, .int .i64 0, .int .u32 0, .int .u32 0, .int .i64 0, .slice none 0 0, .int .i64 0] (0, 0) _ rfl (put7_blk HD9.out.b0 _ _ _ _ _ _ _) Tryz.underlying25 rfl (by kernel_rfl)) rfl ?_
            refine ⟨put7_below HD9.out.below (Nat.le_refl _) _ _ _ _ _ _ _, ?_⟩
            unfold RDecR
            rw [HDP.out]
            show if encP 0 V1 0 0 0 [] 0 = (s, 0) then _ else _
            rw [if_neg (by rw [← HE.out]; intro h; exact H1.out (congrArg Prod.fst h))]
            rfl
        · have hz : (E2 == 0) = false := beq_eq_false_iff_ne.2 h2
          have hz' : (E2 != 0) = true := by rw [bne, hz]; rfl
          have H2 := Aside0.mk h2
          clear h2
          go_wp2_with fail
          refine bodyPost_ret (results_ct rfl _ _ w.heap.size 25 #[.int .i64 0, .int .i64 0, .int .u32 0, .int .u32 0, .int .i64 0, .slice none 0 0, .int .i64 0] (0, 0) _ rfl (put7_blk HD9.out.b0 _ _ _ _ _ _ _) Tryz.underlying25 rfl (by kernel_rfl)) rfl ?_
          refine ⟨put7_below HD9.out.below (Nat.le_refl _) _ _ _ _ _ _ _, ?_⟩
          unfold RDecR
          rw [HDP.out]
          show if encP 0 V1 0 0 0 [] 0 = (s, 0) then _ else _
          rw [if_neg (by rw [← HE.out]; intro h; exact H2.out (congrArg Prod.snd h))]
          rfl
      · -- kind 1
        have hw := hKw (by decide)
        have hw : [116, 105, 99, 107] = p0 := by simpa [wordP] using hw
        have f1 : ((ba p0).toList == (⟨#[116, 105, 99, 107]⟩ : ByteArray).toList) = true := lit_eq (u := [116, 105, 99, 107]) hw
        have g1 : ((ba p0).toList == [116, 105, 99, 107]) = true := by simpa using f1
        clear hw hKw hKn
        have hdp : rdecP s = (1, rnumP p1, 0, 0, 0, [], 0) := by unfold rdecP; rw [rdecW]; simp [HP0.out, HP1.out, HP2.out, HP3.out, HP4.out, ← HTK.out]
        have hV1r := rnumP_range p1
        obtain ⟨V1, hV1⟩ : ∃ x, x = rnumP p1 := ⟨_, rfl⟩
        rw [← hV1] at hdp hV1r
        simp only [← hV1] at hl1
        have HV1R := Aside0.mk hV1r
        clear hV1 hV1r
        have HDP := Aside0.mk hdp
        clear hdp
        go_wp2_with (
          first
            | (with_reducible refine (hl1 _).mono ?_); rintro e w2 ⟨rfl, hb⟩
              have hR2 := (HDA.out.next hb (Nat.le_refl _)).raise hb.size
              have r0 := (hR2.next (below_alloc (Below.refl w2.heap.size w2) (.cells #[.int .i64 0, .int .i64 V1, .int .u32 0, .int .u32 0, .int .i64 0, .slice none 0 0, .int .i64 0] 25)) (Nat.le_refl _)).row 0 p0 hp0
              have hK0 : (w2.alloc (.cells #[.int .i64 0, .int .i64 V1, .int .u32 0, .int .u32 0, .int .i64 0, .slice none 0 0, .int .i64 0] 25)).heap[w2.heap.size]? = some (.cells #[.int .i64 0, .int .i64 V1, .int .u32 0, .int .u32 0, .int .i64 0, .slice none 0 0, .int .i64 0] 25 (0, 0)) := heap_alloc_new w2 _
              have hD := hR2.next (below_alloc (Below.refl w2.heap.size w2) (.cells #[.int .i64 1, .int .i64 V1, .int .u32 0, .int .u32 0, .int .i64 0, .slice none 0 0, .int .i64 0] 25)) (Nat.le_refl _)
              have hK : (w2.alloc (.cells #[.int .i64 1, .int .i64 V1, .int .u32 0, .int .u32 0, .int .i64 0, .slice none 0 0, .int .i64 0] 25)).heap[w2.heap.size]? = some (.cells #[.int .i64 1, .int .i64 V1, .int .u32 0, .int .u32 0, .int .i64 0, .slice none 0 0, .int .i64 0] 25 (0, 0)) := heap_alloc_new w2 _
              have k0 := (blk_cell hK 0).trans rfl
              have k1 := (blk_cell hK 1).trans rfl
              have k2 := (blk_cell hK 2).trans rfl
              have k3 := (blk_cell hK 3).trans rfl
              have k4 := (blk_cell hK 4).trans rfl
              have k5 := (blk_cell hK 5).trans rfl
              have k6 := (blk_cell hK 6).trans rfl
              have HD2 := Aside0.mk hD
              have HK2 := Aside0.mk hK
              clear hb hR2 hD hK hK0 r1)
        have hev : EvOk _ V1 0 0 0 none 0 0 [] 0 := ⟨HD2.out.laid, Kd.C_nil _ _, fun b h => absurd h (by simp), by decide, HV1R.out, ⟨by decide, by decide⟩, ⟨by decide, by decide⟩, ⟨by decide, by decide⟩, ⟨by decide, by decide⟩⟩
        have henc := refEncode_calls 1 V1 0 0 0 none 0 0 [] 0 _ hev (Nat.le_refl _)
        clear hev
        unfold evV at henc
        refine henc.mono ?_
        rintro e w9 ⟨rfl, hb⟩
        have hD := HD2.out.next hb (Nat.le_of_lt (blk_lt HK2.out))
        have hK := (hb.block _ (blk_lt HK2.out)).trans HK2.out
        have HD9 := Aside0.mk hD
        have HK9 := Aside0.mk hK
        have q0 := (blk_cell hK 0).trans rfl
        have q1 := (blk_cell hK 1).trans rfl
        have q2 := (blk_cell hK 2).trans rfl
        have q3 := (blk_cell hK 3).trans rfl
        have q4 := (blk_cell hK 4).trans rfl
        have q5 := (blk_cell hK 5).trans rfl
        have q6 := (blk_cell hK 6).trans rfl
        have b0 := (blk_cell hD.b0 0).trans rfl
        have b1 := (blk_cell hD.b0 1).trans rfl
        have b2 := (blk_cell hD.b0 2).trans rfl
        have b3 := (blk_cell hD.b0 3).trans rfl
        have b4 := (blk_cell hD.b0 4).trans rfl
        have b5 := (blk_cell hD.b0 5).trans rfl
        have b6 := (blk_cell hD.b0 6).trans rfl
        have z0 := blk_frozen hD.b0 0
        have z1 := blk_frozen hD.b0 1
        have z2 := blk_frozen hD.b0 2
        have z3 := blk_frozen hD.b0 3
        have z4 := blk_frozen hD.b0 4
        have z5 := blk_frozen hD.b0 5
        have z6 := blk_frozen hD.b0 6
        clear hb hD hK henc
        obtain ⟨E, hE⟩ : ∃ E, E = encP 1 V1 0 0 0 [] 0 := ⟨_, rfl⟩
        rw [← hE]
        obtain ⟨E1, E2⟩ := E
        have HE := Aside0.mk hE
        clear hE
        by_cases h2 : E2 = 0
        · by_cases h1 : E1 = s
          · subst h2
            subst h1
            have hss : ((ba E1).toList == (ba E1).toList) = true := by simp
            go_wp2_with fail
            refine bodyPost_ret (results_ct rfl _ _ w.heap.size 25 #[.int .i64 1, .int .i64 V1, .int .u32 0, .int .u32 0, .int .i64 0, .slice none 0 0, .int .i64 0] (0, 0) _ rfl (put7_blk HD9.out.b0 _ _ _ _ _ _ _) Tryz.underlying25 rfl (by kernel_rfl)) rfl ?_
            refine ⟨put7_below HD9.out.below (Nat.le_refl _) _ _ _ _ _ _ _, ?_⟩
            unfold RDecR
            rw [HDP.out]
            show if encP 1 V1 0 0 0 [] 0 = (E1, 0) then _ else _
            rw [if_pos HE.out.symm]
            exact ⟨none, 0, 0, rfl, ⟨Kd.C_nil _ _, Nat.le_refl _⟩⟩
          · subst h2
            have hss : ((ba E1).toList == (ba s).toList) = false := by simp only [ba, ByteArray.toList_mk]; exact beq_eq_false_iff_ne.2 h1
            have H1 := Aside0.mk h1
            clear h1
            go_wp2_with fail
            refine bodyPost_ret (results_ct rfl _ _ w.heap.size 25 #[.int .i64 0, .int .i64 0, .int .u32 0, .int .u32 0, .int .i64 0, .slice none 0 0, .int .i64 0] (0, 0) _ rfl (put7_blk HD9.out.b0 _ _ _ _ _ _ _) Tryz.underlying25 rfl (by kernel_rfl)) rfl ?_
            refine ⟨put7_below HD9.out.below (Nat.le_refl _) _ _ _ _ _ _ _, ?_⟩
            unfold RDecR
            rw [HDP.out]
            show if encP 1 V1 0 0 0 [] 0 = (s, 0) then _ else _
            rw [if_neg (by rw [← HE.out]; intro h; exact H1.out (congrArg Prod.fst h))]
            rfl
        · have hz : (E2 == 0) = false := beq_eq_false_iff_ne.2 h2
          have hz' : (E2 != 0) = true := by rw [bne, hz]; rfl
          have H2 := Aside0.mk h2
          clear h2
          go_wp2_with fail
          refine bodyPost_ret (results_ct rfl _ _ w.heap.size 25 #[.int .i64 0, .int .i64 0, .int .u32 0, .int .u32 0, .int .i64 0, .slice none 0 0, .int .i64 0] (0, 0) _ rfl (put7_blk HD9.out.b0 _ _ _ _ _ _ _) Tryz.underlying25 rfl (by kernel_rfl)) rfl ?_
          refine ⟨put7_below HD9.out.below (Nat.le_refl _) _ _ _ _ _ _ _, ?_⟩
          unfold RDecR
          rw [HDP.out]
          show if encP 1 V1 0 0 0 [] 0 = (s, 0) then _ else _
          rw [if_neg (by rw [← HE.out]; intro h; exact H2.out (congrArg Prod.snd h))]
          rfl
      · -- kind 2
        have hw := hKw (by decide)
        have hw : [112, 97, 99, 107, 101, 116] = p0 := by simpa [wordP] using hw
        have f1 : ((ba p0).toList == (⟨#[116, 105, 99, 107]⟩ : ByteArray).toList) = false := lit_ne (u := [116, 105, 99, 107]) (by rw [← hw]; decide)
        have f2 : ((ba p0).toList == (⟨#[112, 97, 99, 107, 101, 116]⟩ : ByteArray).toList) = true := lit_eq (u := [112, 97, 99, 107, 101, 116]) hw
        have g1 : ((ba p0).toList == [116, 105, 99, 107]) = false := by simpa using f1
        have g2 : ((ba p0).toList == [112, 97, 99, 107, 101, 116]) = true := by simpa using f2
        clear hw hKw hKn
        have hdp : rdecP s = (2, rnumP p1, (addrP p2).1, (addrP p3).1, 0, rhexP p4 [], 0) := by unfold rdecP; rw [rdecW]; simp [HP0.out, HP1.out, HP2.out, HP3.out, HP4.out, ← HTK.out]
        have hV1r := rnumP_range p1
        obtain ⟨V1, hV1⟩ : ∃ x, x = rnumP p1 := ⟨_, rfl⟩
        rw [← hV1] at hdp hV1r
        simp only [← hV1] at hl1
        have HV1R := Aside0.mk hV1r
        clear hV1 hV1r
        have hV2r := addrP_range p2
        obtain ⟨V2, hV2⟩ : ∃ x, x = (addrP p2).1 := ⟨_, rfl⟩
        rw [← hV2] at hdp hV2r
        simp only [← hV2] at ha2
        have HV2R := Aside0.mk hV2r
        clear hV2 hV2r
        have hV3r := addrP_range p3
        obtain ⟨V3, hV3⟩ : ∃ x, x = (addrP p3).1 := ⟨_, rfl⟩
        rw [← hV3] at hdp hV3r
        simp only [← hV3] at ha3
        have HV3R := Aside0.mk hV3r
        clear hV3 hV3r
        have hLr := rhexP_ok p4
        have hLl : (rhexP p4 []).length ≤ 1048576 := Nat.le_trans (rhexP_len p4 []) (by have := hs4; simp only [List.length_nil]; omega)
        obtain ⟨L, hL⟩ : ∃ x, x = rhexP p4 [] := ⟨_, rfl⟩
        rw [← hL] at hdp hLr hLl
        simp only [← hL] at hb4
        have HLR := Aside0.mk (And.intro hLr hLl)
        clear hL hLr hLl
        have HDP := Aside0.mk hdp
        clear hdp
        go_wp2_with (
          first
            | (with_reducible refine (hl1 _).mono ?_); rintro e w2 ⟨rfl, hb⟩
              have hR2 := (HDA.out.next hb (Nat.le_refl _)).raise hb.size
              have r0 := (hR2.next (below_alloc (Below.refl w2.heap.size w2) (.cells #[.int .i64 0, .int .i64 V1, .int .u32 0, .int .u32 0, .int .i64 0, .slice none 0 0, .int .i64 0] 25)) (Nat.le_refl _)).row 0 p0 hp0
              have hK0 : (w2.alloc (.cells #[.int .i64 0, .int .i64 V1, .int .u32 0, .int .u32 0, .int .i64 0, .slice none 0 0, .int .i64 0] 25)).heap[w2.heap.size]? = some (.cells #[.int .i64 0, .int .i64 V1, .int .u32 0, .int .u32 0, .int .i64 0, .slice none 0 0, .int .i64 0] 25 (0, 0)) := heap_alloc_new w2 _
              have hD := hR2.next (below_alloc (Below.refl w2.heap.size w2) (.cells #[.int .i64 2, .int .i64 V1, .int .u32 0, .int .u32 0, .int .i64 0, .slice none 0 0, .int .i64 0] 25)) (Nat.le_refl _)
              have hK : (w2.alloc (.cells #[.int .i64 2, .int .i64 V1, .int .u32 0, .int .u32 0, .int .i64 0, .slice none 0 0, .int .i64 0] 25)).heap[w2.heap.size]? = some (.cells #[.int .i64 2, .int .i64 V1, .int .u32 0, .int .u32 0, .int .i64 0, .slice none 0 0, .int .i64 0] 25 (0, 0)) := heap_alloc_new w2 _
              have r2 := hD.row 2 _ hp2
              have HD2 := Aside0.mk hD
              have HK2 := Aside0.mk hK
              clear hb hR2 hD hK hK0 r1
            | (with_reducible refine (ha2 _).mono ?_); rintro e w3 ⟨⟨xx, rfl⟩, hb⟩
              have hD := HD2.out.next hb (Nat.le_of_lt (blk_lt HK2.out))
              have hK := (hb.block _ (blk_lt HK2.out)).trans HK2.out
              have kf0 := blk_frozen hK 2
              have kc0 := (blk_cell hK 2).trans rfl
              have hK0 : (w3.setCell ⟨w2.heap.size, 2, none⟩ (.int .u32 V2)).heap[w2.heap.size]? = some (.cells #[.int .i64 2, .int .i64 V1, .int .u32 V2, .int .u32 0, .int .i64 0, .slice none 0 0, .int .i64 0] 25 (0, 0)) := (blk_set hK 2 _).trans rfl
              have hD0 := hD.put 2 (.int .u32 V2)
              have r3 := hD0.row 3 _ hp3
              have HD3 := Aside0.mk hD0
              have HK3 := Aside0.mk hK0
              clear hb hD hK hK0 hD0
            | (with_reducible refine (ha3 _).mono ?_); rintro e w4 ⟨⟨xx, rfl⟩, hb⟩
              have hD := HD3.out.next hb (Nat.le_of_lt (blk_lt HK3.out))
              have hK := (hb.block _ (blk_lt HK3.out)).trans HK3.out
              have kf0 := blk_frozen hK 3
              have kc0 := (blk_cell hK 3).trans rfl
              have hK0 : (w4.setCell ⟨w2.heap.size, 3, none⟩ (.int .u32 V3)).heap[w2.heap.size]? = some (.cells #[.int .i64 2, .int .i64 V1, .int .u32 V2, .int .u32 V3, .int .i64 0, .slice none 0 0, .int .i64 0] 25 (0, 0)) := (blk_set hK 3 _).trans rfl
              have hD0 := hD.put 3 (.int .u32 V3)
              have r4 := hD0.row 4 _ hp4
              have HD4 := Aside0.mk hD0
              have HK4 := Aside0.mk hK0
              clear hb hD hK hK0 hD0
            | (with_reducible refine (hb4 _).mono ?_); rintro e w5 ⟨bv, rfl, ho, hb⟩
              obtain ⟨BA, BC, rfl⟩ := own_slice ho
              obtain ⟨BM, hBM⟩ : ∃ x, x = L.length := ⟨_, rfl⟩
              have HBM := Aside0.mk hBM
              have hne := own_ne ho (((hb.block _ (blk_lt HK4.out)).trans HK4.out)) (by decide)
              rw [← hBM] at ho hne ⊢
              have HO := Aside0.mk ho
              have hD := HD4.out.next hb (Nat.le_of_lt (blk_lt HK4.out))
              have hK := (hb.block _ (blk_lt HK4.out)).trans HK4.out
              have kf0 := blk_frozen hK 5
              have kc0 := (blk_cell hK 5).trans rfl
              have hK0 : (w5.setCell ⟨w2.heap.size, 5, none⟩ (.slice BA BM BC)).heap[w2.heap.size]? = some (.cells #[.int .i64 2, .int .i64 V1, .int .u32 V2, .int .u32 V3, .int .i64 0, .slice BA BM BC, .int .i64 0] 25 (0, 0)) := (blk_set hK 5 _).trans rfl
              have hD0 := hD.put 5 (.slice BA BM BC)
              have k0 := (blk_cell hK0 0).trans rfl
              have k1 := (blk_cell hK0 1).trans rfl
              have k2 := (blk_cell hK0 2).trans rfl
              have k3 := (blk_cell hK0 3).trans rfl
              have k4 := (blk_cell hK0 4).trans rfl
              have k5 := (blk_cell hK0 5).trans rfl
              have k6 := (blk_cell hK0 6).trans rfl
              have HD5 := Aside0.mk hD0
              have HK5 := Aside0.mk hK0
              have HO2 := Aside0.mk (own_setCell HO.out (p := ⟨w2.heap.size, 5, none⟩) hne (.slice BA BM BC))
              clear hb hD hK hK0 hD0 hne ho hBM HO)
        have hev : EvOk _ V1 V2 V3 0 BA BM BC L 0 := ⟨HD5.out.laid, by rw [HBM.out]; exact (C_of_own (HBM.out ▸ HO2.out)).2, HLR.out.1, by rw [HBM.out]; exact HLR.out.2, HV1R.out, HV2R.out, HV3R.out, ⟨by decide, by decide⟩, ⟨by decide, by decide⟩⟩
        have henc := refEncode_calls 2 V1 V2 V3 0 BA BM BC L 0 _ hev (own_le HO2.out)
        clear hev
        unfold evV at henc
        refine henc.mono ?_
        rintro e w9 ⟨rfl, hb⟩
        have hD := HD5.out.next hb (Nat.le_of_lt (blk_lt HK5.out))
        have hK := (hb.block _ (blk_lt HK5.out)).trans HK5.out
        have HO9 := Aside0.mk (pw_own_below HO2.out hb)
        have HD9 := Aside0.mk hD
        have HK9 := Aside0.mk hK
        have q0 := (blk_cell hK 0).trans rfl
        have q1 := (blk_cell hK 1).trans rfl
        have q2 := (blk_cell hK 2).trans rfl
        have q3 := (blk_cell hK 3).trans rfl
        have q4 := (blk_cell hK 4).trans rfl
        have q5 := (blk_cell hK 5).trans rfl
        have q6 := (blk_cell hK 6).trans rfl
        have b0 := (blk_cell hD.b0 0).trans rfl
        have b1 := (blk_cell hD.b0 1).trans rfl
        have b2 := (blk_cell hD.b0 2).trans rfl
        have b3 := (blk_cell hD.b0 3).trans rfl
        have b4 := (blk_cell hD.b0 4).trans rfl
        have b5 := (blk_cell hD.b0 5).trans rfl
        have b6 := (blk_cell hD.b0 6).trans rfl
        have z0 := blk_frozen hD.b0 0
        have z1 := blk_frozen hD.b0 1
        have z2 := blk_frozen hD.b0 2
        have z3 := blk_frozen hD.b0 3
        have z4 := blk_frozen hD.b0 4
        have z5 := blk_frozen hD.b0 5
        have z6 := blk_frozen hD.b0 6
        clear hb hD hK henc
        obtain ⟨E, hE⟩ : ∃ E, E = encP 2 V1 V2 V3 0 L 0 := ⟨_, rfl⟩
        rw [← hE]
        obtain ⟨E1, E2⟩ := E
        have HE := Aside0.mk hE
        clear hE
        by_cases h2 : E2 = 0
        · by_cases h1 : E1 = s
          · subst h2
            subst h1
            have hss : ((ba E1).toList == (ba E1).toList) = true := by simp
            go_wp2_with fail
            refine bodyPost_ret (results_ct rfl _ _ w.heap.size 25 #[.int .i64 2, .int .i64 V1, .int .u32 V2, .int .u32 V3, .int .i64 0, .slice BA BM BC, .int .i64 0] (0, 0) _ rfl (put7_blk HD9.out.b0 _ _ _ _ _ _ _) Tryz.underlying25 rfl (by kernel_rfl)) rfl ?_
            refine ⟨put7_below HD9.out.below (Nat.le_refl _) _ _ _ _ _ _ _, ?_⟩
            unfold RDecR
            rw [HDP.out]
            show if encP 2 V1 V2 V3 0 L 0 = (E1, 0) then _ else _
            rw [if_pos HE.out.symm]
            exact ⟨BA, BM, BC, rfl, by have ho := put7_own HO9.out (own_ne HO9.out HD9.out.b0 (by decide)) (.int .i64 2) (.int .i64 V1) (.int .u32 V2) (.int .u32 V3) (.int .i64 0) (.slice BA BM BC) (.int .i64 0); have hle := own_le ho; rw [HBM.out] at ho hle ⊢; exact ⟨(C_of_own ho).2, hle⟩⟩
          · subst h2
            have hss : ((ba E1).toList == (ba s).toList) = false := by simp only [ba, ByteArray.toList_mk]; exact beq_eq_false_iff_ne.2 h1
            have H1 := Aside0.mk h1
            clear h1
            go_wp2_with fail
            refine bodyPost_ret (results_ct rfl _ _ w.heap.size 25 #[.int .i64 0, .int .i64 0, .int .u32 0, .int .u32 0, .int .i64 0, .slice none 0 0, .int .i64 0] (0, 0) _ rfl (put7_blk HD9.out.b0 _ _ _ _ _ _ _) Tryz.underlying25 rfl (by kernel_rfl)) rfl ?_
            refine ⟨put7_below HD9.out.below (Nat.le_refl _) _ _ _ _ _ _ _, ?_⟩
            unfold RDecR
            rw [HDP.out]
            show if encP 2 V1 V2 V3 0 L 0 = (s, 0) then _ else _
            rw [if_neg (by rw [← HE.out]; intro h; exact H1.out (congrArg Prod.fst h))]
            rfl
        · have hz : (E2 == 0) = false := beq_eq_false_iff_ne.2 h2
          have hz' : (E2 != 0) = true := by rw [bne, hz]; rfl
          have H2 := Aside0.mk h2
          clear h2
          go_wp2_with fail
          refine bodyPost_ret (results_ct rfl _ _ w.heap.size 25 #[.int .i64 0, .int .i64 0, .int .u32 0, .int .u32 0, .int .i64 0, .slice none 0 0, .int .i64 0] (0, 0) _ rfl (put7_blk HD9.out.b0 _ _ _ _ _ _ _) Tryz.underlying25 rfl (by kernel_rfl)) rfl ?_
          refine ⟨put7_below HD9.out.below (Nat.le_refl _) _ _ _ _ _ _ _, ?_⟩
          unfold RDecR
          rw [HDP.out]
          show if encP 2 V1 V2 V3 0 L 0 = (s, 0) then _ else _
          rw [if_neg (by rw [← HE.out]; intro h; exact H2.out (congrArg Prod.snd h))]
          rfl
      · -- kind 3
        have hw := hKw (by decide)
        have hw : [115, 101, 114, 105, 97, 108] = p0 := by simpa [wordP] using hw
        have f1 : ((ba p0).toList == (⟨#[116, 105, 99, 107]⟩ : ByteArray).toList) = false := lit_ne (u := [116, 105, 99, 107]) (by rw [← hw]; decide)
        have f2 : ((ba p0).toList == (⟨#[112, 97, 99, 107, 101, 116]⟩ : ByteArray).toList) = false := lit_ne (u := [112, 97, 99, 107, 101, 116]) (by rw [← hw]; decide)
        have f3 : ((ba p0).toList == (⟨#[115, 101, 114, 105, 97, 108]⟩ : ByteArray).toList) = true := lit_eq (u := [115, 101, 114, 105, 97, 108]) hw
        have g1 : ((ba p0).toList == [116, 105, 99, 107]) = false := by simpa using f1
        have g2 : ((ba p0).toList == [112, 97, 99, 107, 101, 116]) = false := by simpa using f2
        have g3 : ((ba p0).toList == [115, 101, 114, 105, 97, 108]) = true := by simpa using f3
        clear hw hKw hKn
        have hdp : rdecP s = (3, rnumP p1, 0, 0, rnumP p2, rhexP p3 [], 0) := by unfold rdecP; rw [rdecW]; simp [HP0.out, HP1.out, HP2.out, HP3.out, HP4.out, ← HTK.out]
        have hV1r := rnumP_range p1
        obtain ⟨V1, hV1⟩ : ∃ x, x = rnumP p1 := ⟨_, rfl⟩
        rw [← hV1] at hdp hV1r
        simp only [← hV1] at hl1
        have HV1R := Aside0.mk hV1r
        clear hV1 hV1r
        have hV2r := rnumP_range p2
        obtain ⟨V2, hV2⟩ : ∃ x, x = rnumP p2 := ⟨_, rfl⟩
        rw [← hV2] at hdp hV2r
        simp only [← hV2] at hl2
        have HV2R := Aside0.mk hV2r
        clear hV2 hV2r
        have hLr := rhexP_ok p3
        have hLl : (rhexP p3 []).length ≤ 1048576 := Nat.le_trans (rhexP_len p3 []) (by have := hs3; simp only [List.length_nil]; omega)
        obtain ⟨L, hL⟩ : ∃ x, x = rhexP p3 [] := ⟨_, rfl⟩
        rw [← hL] at hdp hLr hLl
        simp only [← hL] at hb3
        have HLR := Aside0.mk (And.intro hLr hLl)
        clear hL hLr hLl
        have HDP := Aside0.mk hdp
        clear hdp
        go_wp2_with (
          first
            | (with_reducible refine (hl1 _).mono ?_); rintro e w2 ⟨rfl, hb⟩
              have hR2 := (HDA.out.next hb (Nat.le_refl _)).raise hb.size
              have r0 := (hR2.next (below_alloc (Below.refl w2.heap.size w2) (.cells #[.int .i64 0, .int .i64 V1, .int .u32 0, .int .u32 0, .int .i64 0, .slice none 0 0, .int .i64 0] 25)) (Nat.le_refl _)).row 0 p0 hp0
              have hK0 : (w2.alloc (.cells #[.int .i64 0, .int .i64 V1, .int .u32 0, .int .u32 0, .int .i64 0, .slice none 0 0, .int .i64 0] 25)).heap[w2.heap.size]? = some (.cells #[.int .i64 0, .int .i64 V1, .int .u32 0, .int .u32 0, .int .i64 0, .slice none 0 0, .int .i64 0] 25 (0, 0)) := heap_alloc_new w2 _
              have hD := hR2.next (below_alloc (Below.refl w2.heap.size w2) (.cells #[.int .i64 3, .int .i64 V1, .int .u32 0, .int .u32 0, .int .i64 0, .slice none 0 0, .int .i64 0] 25)) (Nat.le_refl _)
              have hK : (w2.alloc (.cells #[.int .i64 3, .int .i64 V1, .int .u32 0, .int .u32 0, .int .i64 0, .slice none 0 0, .int .i64 0] 25)).heap[w2.heap.size]? = some (.cells #[.int .i64 3, .int .i64 V1, .int .u32 0, .int .u32 0, .int .i64 0, .slice none 0 0, .int .i64 0] 25 (0, 0)) := heap_alloc_new w2 _
              have r2 := hD.row 2 _ hp2
              have HD2 := Aside0.mk hD
              have HK2 := Aside0.mk hK
              clear hb hR2 hD hK hK0 r1
            | (with_reducible refine (hl2 _).mono ?_); rintro e w3 ⟨rfl, hb⟩
              have hD := HD2.out.next hb (Nat.le_of_lt (blk_lt HK2.out))
              have hK := (hb.block _ (blk_lt HK2.out)).trans HK2.out
              have kf0 := blk_frozen hK 4
              have kc0 := (blk_cell hK 4).trans rfl
              have hK0 : (w3.setCell ⟨w2.heap.size, 4, none⟩ (.int .i64 V2)).heap[w2.heap.size]? = some (.cells #[.int .i64 3, .int .i64 V1, .int .u32 0, .int .u32 0, .int .i64 V2, .slice none 0 0, .int .i64 0] 25 (0, 0)) := (blk_set hK 4 _).trans rfl
              have hD0 := hD.put 4 (.int .i64 V2)
              have r3 := hD0.row 3 _ hp3
              have HD3 := Aside0.mk hD0
              have HK3 := Aside0.mk hK0
              clear hb hD hK hK0 hD0
            | (with_reducible refine (hb3 _).mono ?_); rintro e w4 ⟨bv, rfl, ho, hb⟩
              obtain ⟨BA, BC, rfl⟩ := own_slice ho
              obtain ⟨BM, hBM⟩ : ∃ x, x = L.length := ⟨_, rfl⟩
              have HBM := Aside0.mk hBM
              have hne := own_ne ho (((hb.block _ (blk_lt HK3.out)).trans HK3.out)) (by decide)
              rw [← hBM] at ho hne ⊢
              have HO := Aside0.mk ho
              have hD := HD3.out.next hb (Nat.le_of_lt (blk_lt HK3.out))
              have hK := (hb.block _ (blk_lt HK3.out)).trans HK3.out
              have kf0 := blk_frozen hK 5
              have kc0 := (blk_cell hK 5).trans rfl
              have hK0 : (w4.setCell ⟨w2.heap.size, 5, none⟩ (.slice BA BM BC)).heap[w2.heap.size]? = some (.cells #[.int .i64 3, .int .i64 V1, .int .u32 0, .int .u32 0, .int .i64 V2, .slice BA BM BC, .int .i64 0] 25 (0, 0)) := (blk_set hK 5 _).trans rfl
              have hD0 := hD.put 5 (.slice BA BM BC)
              have k0 := (blk_cell hK0 0).trans rfl
              have k1 := (blk_cell hK0 1).trans rfl
              have k2 := (blk_cell hK0 2).trans rfl
              have k3 := (blk_cell hK0 3).trans rfl
              have k4 := (blk_cell hK0 4).trans rfl
              have k5 := (blk_cell hK0 5).trans rfl
              have k6 := (blk_cell hK0 6).trans rfl
              have HD4 := Aside0.mk hD0
              have HK4 := Aside0.mk hK0
              have HO2 := Aside0.mk (own_setCell HO.out (p := ⟨w2.heap.size, 5, none⟩) hne (.slice BA BM BC))
              clear hb hD hK hK0 hD0 hne ho hBM HO)
        have hev : EvOk _ V1 0 0 V2 BA BM BC L 0 := ⟨HD4.out.laid, by rw [HBM.out]; exact (C_of_own (HBM.out ▸ HO2.out)).2, HLR.out.1, by rw [HBM.out]; exact HLR.out.2, HV1R.out, ⟨by decide, by decide⟩, ⟨by decide, by decide⟩, HV2R.out, ⟨by decide, by decide⟩⟩
        have henc := refEncode_calls 3 V1 0 0 V2 BA BM BC L 0 _ hev (own_le HO2.out)
        clear hev
        unfold evV at henc
        refine henc.mono ?_
        rintro e w9 ⟨rfl, hb⟩
        have hD := HD4.out.next hb (Nat.le_of_lt (blk_lt HK4.out))
        have hK := (hb.block _ (blk_lt HK4.out)).trans HK4.out
        have HO9 := Aside0.mk (pw_own_below HO2.out hb)
        have HD9 := Aside0.mk hD
        have HK9 := Aside0.mk hK
        have q0 := (blk_cell hK 0).trans rfl
        have q1 := (blk_cell hK 1).trans rfl
        have q2 := (blk_cell hK 2).trans rfl
        have q3 := (blk_cell hK 3).trans rfl
        have q4 := (blk_cell hK 4).trans rfl
        have q5 := (blk_cell hK 5).trans rfl
        have q6 := (blk_cell hK 6).trans rfl
        have b0 := (blk_cell hD.b0 0).trans rfl
        have b1 := (blk_cell hD.b0 1).trans rfl
        have b2 := (blk_cell hD.b0 2).trans rfl
        have b3 := (blk_cell hD.b0 3).trans rfl
        have b4 := (blk_cell hD.b0 4).trans rfl
        have b5 := (blk_cell hD.b0 5).trans rfl
        have b6 := (blk_cell hD.b0 6).trans rfl
        have z0 := blk_frozen hD.b0 0
        have z1 := blk_frozen hD.b0 1
        have z2 := blk_frozen hD.b0 2
        have z3 := blk_frozen hD.b0 3
        have z4 := blk_frozen hD.b0 4
        have z5 := blk_frozen hD.b0 5
        have z6 := blk_frozen hD.b0 6
        clear hb hD hK henc
        obtain ⟨E, hE⟩ : ∃ E, E = encP 3 V1 0 0 V2 L 0 := ⟨_, rfl⟩
        rw [← hE]
        obtain ⟨E1, E2⟩ := E
        have HE := Aside0.mk hE
        clear hE
        by_cases h2 : E2 = 0
        · by_cases h1 : E1 = s
          · subst h2
            subst h1
            have hss : ((ba E1).toList == (ba E1).toList) = true := by simp
            go_wp2_with fail
            refine bodyPost_ret (results_ct rfl _ _ w.heap.size 25 #[.int .i64 3, .int .i64 V1, .int .u32 0, .int .u32 0, .int .i64 V2, .slice BA BM BC, .int .i64 0] (0, 0) _ rfl (put7_blk HD9.out.b0 _ _ _ _ _ _ _) Tryz.underlying25 rfl (by kernel_rfl)) rfl ?_
            refine ⟨put7_below HD9.out.below (Nat.le_refl _) _ _ _ _ _ _ _, ?_⟩
            unfold RDecR
            rw [HDP.out]
            show if encP 3 V1 0 0 V2 L 0 = (E1, 0) then _ else _
            rw [if_pos HE.out.symm]
            exact ⟨BA, BM, BC, rfl, by have ho := put7_own HO9.out (own_ne HO9.out HD9.out.b0 (by decide)) (.int .i64 3) (.int .i64 V1) (.int .u32 0) (.int .u32 0) (.int .i64 V2) (.slice BA BM BC) (.int .i64 0); have hle := own_le ho; rw [HBM.out] at ho hle ⊢; exact ⟨(C_of_own ho).2, hle⟩⟩
          · subst h2
            have hss : ((ba E1).toList == (ba s).toList) = false := by simp only [ba, ByteArray.toList_mk]; exact beq_eq_false_iff_ne.2 h1
            have H1 := Aside0.mk h1
            clear h1
            go_wp2_with fail
            refine bodyPost_ret (results_ct rfl _ _ w.heap.size 25 #[.int .i64 0, .int .i64 0, .int .u32 0, .int .u32 0, .int .i64 0, .slice none 0 0, .int .i64 0] (0, 0) _ rfl (put7_blk HD9.out.b0 _ _ _ _ _ _ _) Tryz.underlying25 rfl (by kernel_rfl)) rfl ?_
            refine ⟨put7_below HD9.out.below (Nat.le_refl _) _ _ _ _ _ _ _, ?_⟩
            unfold RDecR
            rw [HDP.out]
            show if encP 3 V1 0 0 V2 L 0 = (s, 0) then _ else _
            rw [if_neg (by rw [← HE.out]; intro h; exact H1.out (congrArg Prod.fst h))]
            rfl
        · have hz : (E2 == 0) = false := beq_eq_false_iff_ne.2 h2
          have hz' : (E2 != 0) = true := by rw [bne, hz]; rfl
          have H2 := Aside0.mk h2
          clear h2
          go_wp2_with fail
          refine bodyPost_ret (results_ct rfl _ _ w.heap.size 25 #[.int .i64 0, .int .i64 0, .int .u32 0, .int .u32 0, .int .i64 0, .slice none 0 0, .int .i64 0] (0, 0) _ rfl (put7_blk HD9.out.b0 _ _ _ _ _ _ _) Tryz.underlying25 rfl (by kernel_rfl)) rfl ?_
          refine ⟨put7_below HD9.out.below (Nat.le_refl _) _ _ _ _ _ _ _, ?_⟩
          unfold RDecR
          rw [HDP.out]
          show if encP 3 V1 0 0 V2 L 0 = (s, 0) then _ else _
          rw [if_neg (by rw [← HE.out]; intro h; exact H2.out (congrArg Prod.snd h))]
          rfl
      · -- kind 4
        have hw := hKw (by decide)
        have hw : [112, 117, 108, 115, 101] = p0 := by simpa [wordP] using hw
        have f1 : ((ba p0).toList == (⟨#[116, 105, 99, 107]⟩ : ByteArray).toList) = false := lit_ne (u := [116, 105, 99, 107]) (by rw [← hw]; decide)
        have f2 : ((ba p0).toList == (⟨#[112, 97, 99, 107, 101, 116]⟩ : ByteArray).toList) = false := lit_ne (u := [112, 97, 99, 107, 101, 116]) (by rw [← hw]; decide)
        have f3 : ((ba p0).toList == (⟨#[115, 101, 114, 105, 97, 108]⟩ : ByteArray).toList) = false := lit_ne (u := [115, 101, 114, 105, 97, 108]) (by rw [← hw]; decide)
        have f4 : ((ba p0).toList == (⟨#[112, 117, 108, 115, 101]⟩ : ByteArray).toList) = true := lit_eq (u := [112, 117, 108, 115, 101]) hw
        have g1 : ((ba p0).toList == [116, 105, 99, 107]) = false := by simpa using f1
        have g2 : ((ba p0).toList == [112, 97, 99, 107, 101, 116]) = false := by simpa using f2
        have g3 : ((ba p0).toList == [115, 101, 114, 105, 97, 108]) = false := by simpa using f3
        have g4 : ((ba p0).toList == [112, 117, 108, 115, 101]) = true := by simpa using f4
        clear hw hKw hKn
        have hdp : rdecP s = (4, rnumP p1, 0, 0, rnumP p2, [], rnumP p3) := by unfold rdecP; rw [rdecW]; simp [HP0.out, HP1.out, HP2.out, HP3.out, HP4.out, ← HTK.out]
        have hV1r := rnumP_range p1
        obtain ⟨V1, hV1⟩ : ∃ x, x = rnumP p1 := ⟨_, rfl⟩
        rw [← hV1] at hdp hV1r
        simp only [← hV1] at hl1
        have HV1R := Aside0.mk hV1r
        clear hV1 hV1r
        have hV2r := rnumP_range p2
        obtain ⟨V2, hV2⟩ : ∃ x, x = rnumP p2 := ⟨_, rfl⟩
        rw [← hV2] at hdp hV2r
        simp only [← hV2] at hl2
        have HV2R := Aside0.mk hV2r
        clear hV2 hV2r
        have hV3r := rnumP_range p3
        obtain ⟨V3, hV3⟩ : ∃ x, x = rnumP p3 := ⟨_, rfl⟩
        rw [← hV3] at hdp hV3r
        simp only [← hV3] at hl3
        have HV3R := Aside0.mk hV3r
        clear hV3 hV3r
        have HDP := Aside0.mk hdp
        clear hdp
        go_wp2_with (
          first
            | (with_reducible refine (hl1 _).mono ?_); rintro e w2 ⟨rfl, hb⟩
              have hR2 := (HDA.out.next hb (Nat.le_refl _)).raise hb.size
              have r0 := (hR2.next (below_alloc (Below.refl w2.heap.size w2) (.cells #[.int .i64 0, .int .i64 V1, .int .u32 0, .int .u32 0, .int .i64 0, .slice none 0 0, .int .i64 0] 25)) (Nat.le_refl _)).row 0 p0 hp0
              have hK0 : (w2.alloc (.cells #[.int .i64 0, .int .i64 V1, .int .u32 0, .int .u32 0, .int .i64 0, .slice none 0 0, .int .i64 0] 25)).heap[w2.heap.size]? = some (.cells #[.int .i64 0, .int .i64 V1, .int .u32 0, .int .u32 0, .int .i64 0, .slice none 0 0, .int .i64 0] 25 (0, 0)) := heap_alloc_new w2 _
              have hD := hR2.next (below_alloc (Below.refl w2.heap.size w2) (.cells #[.int .i64 4, .int .i64 V1, .int .u32 0, .int .u32 0, .int .i64 0, .slice none 0 0, .int .i64 0] 25)) (Nat.le_refl _)
              have hK : (w2.alloc (.cells #[.int .i64 4, .int .i64 V1, .int .u32 0, .int .u32 0, .int .i64 0, .slice none 0 0, .int .i64 0] 25)).heap[w2.heap.size]? = some (.cells #[.int .i64 4, .int .i64 V1, .int .u32 0, .int .u32 0, .int .i64 0, .slice none 0 0, .int .i64 0] 25 (0, 0)) := heap_alloc_new w2 _
              have r2 := hD.row 2 _ hp2
              have HD2 := Aside0.mk hD
              have HK2 := Aside0.mk hK
              clear hb hR2 hD hK hK0 r1
            | (with_reducible refine (hl2 _).mono ?_); rintro e w3 ⟨rfl, hb⟩
              have hD := HD2.out.next hb (Nat.le_of_lt (blk_lt HK2.out))
              have hK := (hb.block _ (blk_lt HK2.out)).trans HK2.out
              have kf0 := blk_frozen hK 4
              have kc0 := (blk_cell hK 4).trans rfl
              have hK0 : (w3.setCell ⟨w2.heap.size, 4, none⟩ (.int .i64 V2)).heap[w2.heap.size]? = some (.cells #[.int .i64 4, .int .i64 V1, .int .u32 0, .int .u32 0, .int .i64 V2, .slice none 0 0, .int .i64 0] 25 (0, 0)) := (blk_set hK 4 _).trans rfl
              have hD0 := hD.put 4 (.int .i64 V2)
              have r3 := hD0.row 3 _ hp3
              have HD3 := Aside0.mk hD0
              have HK3 := Aside0.mk hK0
              clear hb hD hK hK0 hD0
            | (with_reducible refine (hl3 _).mono ?_); rintro e w4 ⟨rfl, hb⟩
              have hD := HD3.out.next hb (Nat.le_of_lt (blk_lt HK3.out))
              have hK := (hb.block _ (blk_lt HK3.out)).trans HK3.out
              have kf0 := blk_frozen hK 6
              have kc0 := (blk_cell hK 6).trans rfl
              have hK0 : (w4.setCell ⟨w2.heap.size, 6, none⟩ (.int .i64 V3)).heap[w2.heap.size]? = some (.cells #[.int .i64 4, .int .i64 V1, .int .u32 0, .int .u32 0, .int .i64 V2, .slice none 0 0, .int .i64 V3] 25 (0, 0)) := (blk_set hK 6 _).trans rfl
              have hD0 := hD.put 6 (.int .i64 V3)
              have k0 := (blk_cell hK0 0).trans rfl
              have k1 := (blk_cell hK0 1).trans rfl
              have k2 := (blk_cell hK0 2).trans rfl
              have k3 := (blk_cell hK0 3).trans rfl
              have k4 := (blk_cell hK0 4).trans rfl
              have k5 := (blk_cell hK0 5).trans rfl
              have k6 := (blk_cell hK0 6).trans rfl
              have HD4 := Aside0.mk hD0
              have HK4 := Aside0.mk hK0
              clear hb hD hK hK0 hD0)
        have hev : EvOk _ V1 0 0 V2 none 0 0 [] V3 := ⟨HD4.out.laid, Kd.C_nil _ _, fun b h => absurd h (by simp), by decide, HV1R.out, ⟨by decide, by decide⟩, ⟨by decide, by decide⟩, HV2R.out, HV3R.out⟩
        have henc := refEncode_calls 4 V1 0 0 V2 none 0 0 [] V3 _ hev (Nat.le_refl _)
        clear hev
        unfold evV at henc
        refine henc.mono ?_
        rintro e w9 ⟨rfl, hb⟩
        have hD := HD4.out.next hb (Nat.le_of_lt (blk_lt HK4.out))
        have hK := (hb.block _ (blk_lt HK4.out)).trans HK4.out
        have HD9 := Aside0.mk hD
        have HK9 := Aside0.mk hK
        have q0 := (blk_cell hK 0).trans rfl
        have q1 := (blk_cell hK 1).trans rfl
        have q2 := (blk_cell hK 2).trans rfl
        have q3 := (blk_cell hK 3).trans rfl
        have q4 := (blk_cell hK 4).trans rfl
        have q5 := (blk_cell hK 5).trans rfl
        have q6 := (blk_cell hK 6).trans rfl
        have b0 := (blk_cell hD.b0 0).trans rfl
        have b1 := (blk_cell hD.b0 1).trans rfl
        have b2 := (blk_cell hD.b0 2).trans rfl
        have b3 := (blk_cell hD.b0 3).trans rfl
        have b4 := (blk_cell hD.b0 4).trans rfl
        have b5 := (blk_cell hD.b0 5).trans rfl
        have b6 := (blk_cell hD.b0 6).trans rfl
        have z0 := blk_frozen hD.b0 0
        have z1 := blk_frozen hD.b0 1
        have z2 := blk_frozen hD.b0 2
        have z3 := blk_frozen hD.b0 3
        have z4 := blk_frozen hD.b0 4
        have z5 := blk_frozen hD.b0 5
        have z6 := blk_frozen hD.b0 6
        clear hb hD hK henc
        obtain ⟨E, hE⟩ : ∃ E, E = encP 4 V1 0 0 V2 [] V3 := ⟨_, rfl⟩
        rw [← hE]
        obtain ⟨E1, E2⟩ := E
        have HE := Aside0.mk hE
        clear hE
        by_cases h2 : E2 = 0
        · by_cases h1 : E1 = s
          · subst h2
            subst h1
            have hss : ((ba E1).toList == (ba E1).toList) = true := by simp
            go_wp2_with fail
            refine bodyPost_ret (results_ct rfl _ _ w.heap.size 25 #[.int .i64 4, .int .i64 V1, .int .u32 0, .int .u32 0, .int .i64 V2, .slice none 0 0, .int .i64 V3] (0, 0) _ rfl (put7_blk HD9.out.b0 _ _ _ _ _ _ _) Tryz.underlying25 rfl (by kernel_rfl)) rfl ?_
            refine ⟨put7_below HD9.out.below (Nat.le_refl _) _ _ _ _ _ _ _, ?_⟩
            unfold RDecR
            rw [HDP.out]
            show if encP 4 V1 0 0 V2 [] V3 = (E1, 0) then _ else _
            rw [if_pos HE.out.symm]
            exact ⟨none, 0, 0, rfl, ⟨Kd.C_nil _ _, Nat.le_refl _⟩⟩
          · subst h2
            have hss : ((ba E1).toList == (ba s).toList) = false := by simp only [ba, ByteArray.toList_mk]; exact beq_eq_false_iff_ne.2 h1
            have H1 := Aside0.mk h1
            clear h1
            go_wp2_with fail
            refine bodyPost_ret (results_ct rfl _ _ w.heap.size 25 #[.int .i64 0, .int .i64 0, .int .u32 0, .int .u32 0, .int .i64 0, .slice none 0 0, .int .i64 0] (0, 0) _ rfl (put7_blk HD9.out.b0 _ _ _ _ _ _ _) Tryz.underlying25 rfl (by kernel_rfl)) rfl ?_
            refine ⟨put7_below HD9.out.below (Nat.le_refl _) _ _ _ _ _ _ _, ?_⟩
            unfold RDecR
            rw [HDP.out]
            show if encP 4 V1 0 0 V2 [] V3 = (s, 0) then _ else _
            rw [if_neg (by rw [← HE.out]; intro h; exact H1.out (congrArg Prod.fst h))]
            rfl
        · have hz : (E2 == 0) = false := beq_eq_false_iff_ne.2 h2
          have hz' : (E2 != 0) = true := by rw [bne, hz]; rfl
          have H2 := Aside0.mk h2
          clear h2
          go_wp2_with fail
          refine bodyPost_ret (results_ct rfl _ _ w.heap.size 25 #[.int .i64 0, .int .i64 0, .int .u32 0, .int .u32 0, .int .i64 0, .slice none 0 0, .int .i64 0] (0, 0) _ rfl (put7_blk HD9.out.b0 _ _ _ _ _ _ _) Tryz.underlying25 rfl (by kernel_rfl)) rfl ?_
          refine ⟨put7_below HD9.out.below (Nat.le_refl _) _ _ _ _ _ _ _, ?_⟩
          unfold RDecR
          rw [HDP.out]
          show if encP 4 V1 0 0 V2 [] V3 = (s, 0) then _ else _
          rw [if_neg (by rw [← HE.out]; intro h; exact H2.out (congrArg Prod.snd h))]
          rfl
      · -- kind 5
        have hw := hKw (by decide)
        have hw : [100, 114, 97, 119] = p0 := by simpa [wordP] using hw
        have f1 : ((ba p0).toList == (⟨#[116, 105, 99, 107]⟩ : ByteArray).toList) = false := lit_ne (u := [116, 105, 99, 107]) (by rw [← hw]; decide)
        have f2 : ((ba p0).toList == (⟨#[112, 97, 99, 107, 101, 116]⟩ : ByteArray).toList) = false := lit_ne (u := [112, 97, 99, 107, 101, 116]) (by rw [← hw]; decide)
        have f3 : ((ba p0).toList == (⟨#[115, 101, 114, 105, 97, 108]⟩ : ByteArray).toList) = false := lit_ne (u := [115, 101, 114, 105, 97, 108]) (by rw [← hw]; decide)
        have f4 : ((ba p0).toList == (⟨#[112, 117, 108, 115, 101]⟩ : ByteArray).toList) = false := lit_ne (u := [112, 117, 108, 115, 101]) (by rw [← hw]; decide)
        have f5 : ((ba p0).toList == (⟨#[100, 114, 97, 119]⟩ : ByteArray).toList) = true := lit_eq (u := [100, 114, 97, 119]) hw
        have g1 : ((ba p0).toList == [116, 105, 99, 107]) = false := by simpa using f1
        have g2 : ((ba p0).toList == [112, 97, 99, 107, 101, 116]) = false := by simpa using f2
        have g3 : ((ba p0).toList == [115, 101, 114, 105, 97, 108]) = false := by simpa using f3
        have g4 : ((ba p0).toList == [112, 117, 108, 115, 101]) = false := by simpa using f4
        have g5 : ((ba p0).toList == [100, 114, 97, 119]) = true := by simpa using f5
        clear hw hKw hKn
        have hdp : rdecP s = (5, rnumP p1, 0, 0, 0, [], rnumP p2) := by unfold rdecP; rw [rdecW]; simp [HP0.out, HP1.out, HP2.out, HP3.out, HP4.out, ← HTK.out]
        have hV1r := rnumP_range p1
        obtain ⟨V1, hV1⟩ : ∃ x, x = rnumP p1 := ⟨_, rfl⟩
        rw [← hV1] at hdp hV1r
        simp only [← hV1] at hl1
        have HV1R := Aside0.mk hV1r
        clear hV1 hV1r
        have hV2r := rnumP_range p2
        obtain ⟨V2, hV2⟩ : ∃ x, x = rnumP p2 := ⟨_, rfl⟩
        rw [← hV2] at hdp hV2r
        simp only [← hV2] at hl2
        have HV2R := Aside0.mk hV2r
        clear hV2 hV2r
        have HDP := Aside0.mk hdp
        clear hdp
        go_wp2_with (
          first
            | (with_reducible refine (hl1 _).mono ?_); rintro e w2 ⟨rfl, hb⟩
              have hR2 := (HDA.out.next hb (Nat.le_refl _)).raise hb.size
              have r0 := (hR2.next (below_alloc (Below.refl w2.heap.size w2) (.cells #[.int .i64 0, .int .i64 V1, .int .u32 0, .int .u32 0, .int .i64 0, .slice none 0 0, .int .i64 0] 25)) (Nat.le_refl _)).row 0 p0 hp0
              have hK0 : (w2.alloc (.cells #[.int .i64 0, .int .i64 V1, .int .u32 0, .int .u32 0, .int .i64 0, .slice none 0 0, .int .i64 0] 25)).heap[w2.heap.size]? = some (.cells #[.int .i64 0, .int .i64 V1, .int .u32 0, .int .u32 0, .int .i64 0, .slice none 0 0, .int .i64 0] 25 (0, 0)) := heap_alloc_new w2 _
              have hD := hR2.next (below_alloc (Below.refl w2.heap.size w2) (.cells #[.int .i64 5, .int .i64 V1, .int .u32 0, .int .u32 0, .int .i64 0, .slice none 0 0, .int .i64 0] 25)) (Nat.le_refl _)
              have hK : (w2.alloc (.cells #[.int .i64 5, .int .i64 V1, .int .u32 0, .int .u32 0, .int .i64 0, .slice none 0 0, .int .i64 0] 25)).heap[w2.heap.size]? = some (.cells #[.int .i64 5, .int .i64 V1, .int .u32 0, .int .u32 0, .int .i64 0, .slice none 0 0, .int .i64 0] 25 (0, 0)) := heap_alloc_new w2 _
              have r2 := hD.row 2 _ hp2
              have HD2 := Aside0.mk hD
              have HK2 := Aside0.mk hK
              clear hb hR2 hD hK hK0 r1
            | (with_reducible refine (hl2 _).mono ?_); rintro e w3 ⟨rfl, hb⟩
              have hD := HD2.out.next hb (Nat.le_of_lt (blk_lt HK2.out))
              have hK := (hb.block _ (blk_lt HK2.out)).trans HK2.out
              have kf0 := blk_frozen hK 6
              have kc0 := (blk_cell hK 6).trans rfl
              have hK0 : (w3.setCell ⟨w2.heap.size, 6, none⟩ (.int .i64 V2)).heap[w2.heap.size]? = some (.cells #[.int .i64 5, .int .i64 V1, .int .u32 0, .int .u32 0, .int .i64 0, .slice none 0 0, .int .i64 V2] 25 (0, 0)) := (blk_set hK 6 _).trans rfl
              have hD0 := hD.put 6 (.int .i64 V2)
              have k0 := (blk_cell hK0 0).trans rfl
              have k1 := (blk_cell hK0 1).trans rfl
              have k2 := (blk_cell hK0 2).trans rfl
              have k3 := (blk_cell hK0 3).trans rfl
              have k4 := (blk_cell hK0 4).trans rfl
              have k5 := (blk_cell hK0 5).trans rfl
              have k6 := (blk_cell hK0 6).trans rfl
              have HD3 := Aside0.mk hD0
              have HK3 := Aside0.mk hK0
              clear hb hD hK hK0 hD0)
        have hev : EvOk _ V1 0 0 0 none 0 0 [] V2 := ⟨HD3.out.laid, Kd.C_nil _ _, fun b h => absurd h (by simp), by decide, HV1R.out, ⟨by decide, by decide⟩, ⟨by decide, by decide⟩, ⟨by decide, by decide⟩, HV2R.out⟩
        have henc := refEncode_calls 5 V1 0 0 0 none 0 0 [] V2 _ hev (Nat.le_refl _)
        clear hev
        unfold evV at henc
        refine henc.mono ?_
        rintro e w9 ⟨rfl, hb⟩
        have hD := HD3.out.next hb (Nat.le_of_lt (blk_lt HK3.out))
        have hK := (hb.block _ (blk_lt HK3.out)).trans HK3.out
        have HD9 := Aside0.mk hD
        have HK9 := Aside0.mk hK
        have q0 := (blk_cell hK 0).trans rfl
        have q1 := (blk_cell hK 1).trans rfl
        have q2 := (blk_cell hK 2).trans rfl
        have q3 := (blk_cell hK 3).trans rfl
        have q4 := (blk_cell hK 4).trans rfl
        have q5 := (blk_cell hK 5).trans rfl
        have q6 := (blk_cell hK 6).trans rfl
        have b0 := (blk_cell hD.b0 0).trans rfl
        have b1 := (blk_cell hD.b0 1).trans rfl
        have b2 := (blk_cell hD.b0 2).trans rfl
        have b3 := (blk_cell hD.b0 3).trans rfl
        have b4 := (blk_cell hD.b0 4).trans rfl
        have b5 := (blk_cell hD.b0 5).trans rfl
        have b6 := (blk_cell hD.b0 6).trans rfl
        have z0 := blk_frozen hD.b0 0
        have z1 := blk_frozen hD.b0 1
        have z2 := blk_frozen hD.b0 2
        have z3 := blk_frozen hD.b0 3
        have z4 := blk_frozen hD.b0 4
        have z5 := blk_frozen hD.b0 5
        have z6 := blk_frozen hD.b0 6
        clear hb hD hK henc
        obtain ⟨E, hE⟩ : ∃ E, E = encP 5 V1 0 0 0 [] V2 := ⟨_, rfl⟩
        rw [← hE]
        obtain ⟨E1, E2⟩ := E
        have HE := Aside0.mk hE
        clear hE
        by_cases h2 : E2 = 0
        · by_cases h1 : E1 = s
          · subst h2
            subst h1
            have hss : ((ba E1).toList == (ba E1).toList) = true := by simp
            go_wp2_with fail
            refine bodyPost_ret (results_ct rfl _ _ w.heap.size 25 #[.int .i64 5, .int .i64 V1, .int .u32 0, .int .u32 0, .int .i64 0, .slice none 0 0, .int .i64 V2] (0, 0) _ rfl (put7_blk HD9.out.b0 _ _ _ _ _ _ _) Tryz.underlying25 rfl (by kernel_rfl)) rfl ?_
            refine ⟨put7_below HD9.out.below (Nat.le_refl _) _ _ _ _ _ _ _, ?_⟩
            unfold RDecR
            rw [HDP.out]
            show if encP 5 V1 0 0 0 [] V2 = (E1, 0) then _ else _
            rw [if_pos HE.out.symm]
            exact ⟨none, 0, 0, rfl, ⟨Kd.C_nil _ _, Nat.le_refl _⟩⟩
          · subst h2
            have hss : ((ba E1).toList == (ba s).toList) = false := by simp only [ba, ByteArray.toList_mk]; exact beq_eq_false_iff_ne.2 h1
            have H1 := Aside0.mk h1
            clear h1
            go_wp2_with fail
            refine bodyPost_ret (results_ct rfl _ _ w.heap.size 25 #[.int .i64 0, .int .i64 0, .int .u32 0, .int .u32 0, .int .i64 0, .slice none 0 0, .int .i64 0] (0, 0) _ rfl (put7_blk HD9.out.b0 _ _ _ _ _ _ _) Tryz.underlying25 rfl (by kernel_rfl)) rfl ?_
            refine ⟨put7_below HD9.out.below (Nat.le_refl _) _ _ _ _ _ _ _, ?_⟩
            unfold RDecR
            rw [HDP.out]
            show if encP 5 V1 0 0 0 [] V2 = (s, 0) then _ else _
            rw [if_neg (by rw [← HE.out]; intro h; exact H1.out (congrArg Prod.fst h))]
            rfl
        · have hz : (E2 == 0) = false := beq_eq_false_iff_ne.2 h2
          have hz' : (E2 != 0) = true := by rw [bne, hz]; rfl
          have H2 := Aside0.mk h2
          clear h2
          go_wp2_with fail
          refine bodyPost_ret (results_ct rfl _ _ w.heap.size 25 #[.int .i64 0, .int .i64 0, .int .u32 0, .int .u32 0, .int .i64 0, .slice none 0 0, .int .i64 0] (0, 0) _ rfl (put7_blk HD9.out.b0 _ _ _ _ _ _ _) Tryz.underlying25 rfl (by kernel_rfl)) rfl ?_
          refine ⟨put7_below HD9.out.below (Nat.le_refl _) _ _ _ _ _ _ _, ?_⟩
          unfold RDecR
          rw [HDP.out]
          show if encP 5 V1 0 0 0 [] V2 = (s, 0) then _ else _
          rw [if_neg (by rw [← HE.out]; intro h; exact H2.out (congrArg Prod.snd h))]
          rfl
      · -- kind 6
        have hw := hKw (by decide)
        have hw : [99, 114, 97, 115, 104] = p0 := by simpa [wordP] using hw
        have f1 : ((ba p0).toList == (⟨#[116, 105, 99, 107]⟩ : ByteArray).toList) = false := lit_ne (u := [116, 105, 99, 107]) (by rw [← hw]; decide)
        have f2 : ((ba p0).toList == (⟨#[112, 97, 99, 107, 101, 116]⟩ : ByteArray).toList) = false := lit_ne (u := [112, 97, 99, 107, 101, 116]) (by rw [← hw]; decide)
        have f3 : ((ba p0).toList == (⟨#[115, 101, 114, 105, 97, 108]⟩ : ByteArray).toList) = false := lit_ne (u := [115, 101, 114, 105, 97, 108]) (by rw [← hw]; decide)
        have f4 : ((ba p0).toList == (⟨#[112, 117, 108, 115, 101]⟩ : ByteArray).toList) = false := lit_ne (u := [112, 117, 108, 115, 101]) (by rw [← hw]; decide)
        have f5 : ((ba p0).toList == (⟨#[100, 114, 97, 119]⟩ : ByteArray).toList) = false := lit_ne (u := [100, 114, 97, 119]) (by rw [← hw]; decide)
        have f6 : ((ba p0).toList == (⟨#[99, 114, 97, 115, 104]⟩ : ByteArray).toList) = true := lit_eq (u := [99, 114, 97, 115, 104]) hw
        have g1 : ((ba p0).toList == [116, 105, 99, 107]) = false := by simpa using f1
        have g2 : ((ba p0).toList == [112, 97, 99, 107, 101, 116]) = false := by simpa using f2
        have g3 : ((ba p0).toList == [115, 101, 114, 105, 97, 108]) = false := by simpa using f3
        have g4 : ((ba p0).toList == [112, 117, 108, 115, 101]) = false := by simpa using f4
        have g5 : ((ba p0).toList == [100, 114, 97, 119]) = false := by simpa using f5
        have g6 : ((ba p0).toList == [99, 114, 97, 115, 104]) = true := by simpa using f6
        clear hw hKw hKn
        have hdp : rdecP s = (6, rnumP p1, 0, 0, 0, [], rnumP p2) := by unfold rdecP; rw [rdecW]; simp [HP0.out, HP1.out, HP2.out, HP3.out, HP4.out, ← HTK.out]
        have hV1r := rnumP_range p1
        obtain ⟨V1, hV1⟩ : ∃ x, x = rnumP p1 := ⟨_, rfl⟩
        rw [← hV1] at hdp hV1r
        simp only [← hV1] at hl1
        have HV1R := Aside0.mk hV1r
        clear hV1 hV1r
        have hV2r := rnumP_range p2
        obtain ⟨V2, hV2⟩ : ∃ x, x = rnumP p2 := ⟨_, rfl⟩
        rw [← hV2] at hdp hV2r
        simp only [← hV2] at hl2
        have HV2R := Aside0.mk hV2r
        clear hV2 hV2r
        have HDP := Aside0.mk hdp
        clear hdp
        go_wp2_with (
          first
            | (with_reducible refine (hl1 _).mono ?_); rintro e w2 ⟨rfl, hb⟩
              have hR2 := (HDA.out.next hb (Nat.le_refl _)).raise hb.size
              have r0 := (hR2.next (below_alloc (Below.refl w2.heap.size w2) (.cells #[.int .i64 0, .int .i64 V1, .int .u32 0, .int .u32 0, .int .i64 0, .slice none 0 0, .int .i64 0] 25)) (Nat.le_refl _)).row 0 p0 hp0
              have hK0 : (w2.alloc (.cells #[.int .i64 0, .int .i64 V1, .int .u32 0, .int .u32 0, .int .i64 0, .slice none 0 0, .int .i64 0] 25)).heap[w2.heap.size]? = some (.cells #[.int .i64 0, .int .i64 V1, .int .u32 0, .int .u32 0, .int .i64 0, .slice none 0 0, .int .i64 0] 25 (0, 0)) := heap_alloc_new w2 _
              have hD := hR2.next (below_alloc (Below.refl w2.heap.size w2) (.cells #[.int .i64 6, .int .i64 V1, .int .u32 0, .int .u32 0, .int .i64 0, .slice none 0 0, .int .i64 0] 25)) (Nat.le_refl _)
              have hK : (w2.alloc (.cells #[.int .i64 6, .int .i64 V1, .int .u32 0, .int .u32 0, .int .i64 0, .slice none 0 0, .int .i64 0] 25)).heap[w2.heap.size]? = some (.cells #[.int .i64 6, .int .i64 V1, .int .u32 0, .int .u32 0, .int .i64 0, .slice none 0 0, .int .i64 0] 25 (0, 0)) := heap_alloc_new w2 _
              have r2 := hD.row 2 _ hp2
              have HD2 := Aside0.mk hD
              have HK2 := Aside0.mk hK
              clear hb hR2 hD hK hK0 r1
            | (with_reducible refine (hl2 _).mono ?_); rintro e w3 ⟨rfl, hb⟩
              have hD := HD2.out.next hb (Nat.le_of_lt (blk_lt HK2.out))
              have hK := (hb.block _ (blk_lt HK2.out)).trans HK2.out
              have kf0 := blk_frozen hK 6
              have kc0 := (blk_cell hK 6).trans rfl
              have hK0 : (w3.setCell ⟨w2.heap.size, 6, none⟩ (.int .i64 V2)).heap[w2.heap.size]? = some (.cells #[.int .i64 6, .int .i64 V1, .int .u32 0, .int .u32 0, .int .i64 0, .slice none 0 0, .int .i64 V2] 25 (0, 0)) := (blk_set hK 6 _).trans rfl
              have hD0 := hD.put 6 (.int .i64 V2)
              have k0 := (blk_cell hK0 0).trans rfl
              have k1 := (blk_cell hK0 1).trans rfl
              have k2 := (blk_cell hK0 2).trans rfl
              have k3 := (blk_cell hK0 3).trans rfl
              have k4 := (blk_cell hK0 4).trans rfl
              have k5 := (blk_cell hK0 5).trans rfl
              have k6 := (blk_cell hK0 6).trans rfl
              have HD3 := Aside0.mk hD0
              have HK3 := Aside0.mk hK0
              clear hb hD hK hK0 hD0)
        have hev : EvOk _ V1 0 0 0 none 0 0 [] V2 := ⟨HD3.out.laid, Kd.C_nil _ _, fun b h => absurd h (by simp), by decide, HV1R.out, ⟨by decide, by decide⟩, ⟨by decide, by decide⟩, ⟨by decide, by decide⟩, HV2R.out⟩
        have henc := refEncode_calls 6 V1 0 0 0 none 0 0 [] V2 _ hev (Nat.le_refl _)
        clear hev
        unfold evV at henc
        refine henc.mono ?_
        rintro e w9 ⟨rfl, hb⟩
        have hD := HD3.out.next hb (Nat.le_of_lt (blk_lt HK3.out))
        have hK := (hb.block _ (blk_lt HK3.out)).trans HK3.out
        have HD9 := Aside0.mk hD
        have HK9 := Aside0.mk hK
        have q0 := (blk_cell hK 0).trans rfl
        have q1 := (blk_cell hK 1).trans rfl
        have q2 := (blk_cell hK 2).trans rfl
        have q3 := (blk_cell hK 3).trans rfl
        have q4 := (blk_cell hK 4).trans rfl
        have q5 := (blk_cell hK 5).trans rfl
        have q6 := (blk_cell hK 6).trans rfl
        have b0 := (blk_cell hD.b0 0).trans rfl
        have b1 := (blk_cell hD.b0 1).trans rfl
        have b2 := (blk_cell hD.b0 2).trans rfl
        have b3 := (blk_cell hD.b0 3).trans rfl
        have b4 := (blk_cell hD.b0 4).trans rfl
        have b5 := (blk_cell hD.b0 5).trans rfl
        have b6 := (blk_cell hD.b0 6).trans rfl
        have z0 := blk_frozen hD.b0 0
        have z1 := blk_frozen hD.b0 1
        have z2 := blk_frozen hD.b0 2
        have z3 := blk_frozen hD.b0 3
        have z4 := blk_frozen hD.b0 4
        have z5 := blk_frozen hD.b0 5
        have z6 := blk_frozen hD.b0 6
        clear hb hD hK henc
        obtain ⟨E, hE⟩ : ∃ E, E = encP 6 V1 0 0 0 [] V2 := ⟨_, rfl⟩
        rw [← hE]
        obtain ⟨E1, E2⟩ := E
        have HE := Aside0.mk hE
        clear hE
        by_cases h2 : E2 = 0
        · by_cases h1 : E1 = s
          · subst h2
            subst h1
            have hss : ((ba E1).toList == (ba E1).toList) = true := by simp
            go_wp2_with fail
            refine bodyPost_ret (results_ct rfl _ _ w.heap.size 25 #[.int .i64 6, .int .i64 V1, .int .u32 0, .int .u32 0, .int .i64 0, .slice none 0 0, .int .i64 V2] (0, 0) _ rfl (put7_blk HD9.out.b0 _ _ _ _ _ _ _) Tryz.underlying25 rfl (by kernel_rfl)) rfl ?_
            refine ⟨put7_below HD9.out.below (Nat.le_refl _) _ _ _ _ _ _ _, ?_⟩
            unfold RDecR
            rw [HDP.out]
            show if encP 6 V1 0 0 0 [] V2 = (E1, 0) then _ else _
            rw [if_pos HE.out.symm]
            exact ⟨none, 0, 0, rfl, ⟨Kd.C_nil _ _, Nat.le_refl _⟩⟩
          · subst h2
            have hss : ((ba E1).toList == (ba s).toList) = false := by simp only [ba, ByteArray.toList_mk]; exact beq_eq_false_iff_ne.2 h1
            have H1 := Aside0.mk h1
            clear h1
            go_wp2_with fail
            refine bodyPost_ret (results_ct rfl _ _ w.heap.size 25 #[.int .i64 0, .int .i64 0, .int .u32 0, .int .u32 0, .int .i64 0, .slice none 0 0, .int .i64 0] (0, 0) _ rfl (put7_blk HD9.out.b0 _ _ _ _ _ _ _) Tryz.underlying25 rfl (by kernel_rfl)) rfl ?_
            refine ⟨put7_below HD9.out.below (Nat.le_refl _) _ _ _ _ _ _ _, ?_⟩
            unfold RDecR
            rw [HDP.out]
            show if encP 6 V1 0 0 0 [] V2 = (s, 0) then _ else _
            rw [if_neg (by rw [← HE.out]; intro h; exact H1.out (congrArg Prod.fst h))]
            rfl
        · have hz : (E2 == 0) = false := beq_eq_false_iff_ne.2 h2
          have hz' : (E2 != 0) = true := by rw [bne, hz]; rfl
          have H2 := Aside0.mk h2
          clear h2
          go_wp2_with fail
          refine bodyPost_ret (results_ct rfl _ _ w.heap.size 25 #[.int .i64 0, .int .i64 0, .int .u32 0, .int .u32 0, .int .i64 0, .slice none 0 0, .int .i64 0] (0, 0) _ rfl (put7_blk HD9.out.b0 _ _ _ _ _ _ _) Tryz.underlying25 rfl (by kernel_rfl)) rfl ?_
          refine ⟨put7_below HD9.out.below (Nat.le_refl _) _ _ _ _ _ _ _, ?_⟩
          unfold RDecR
          rw [HDP.out]
          show if encP 6 V1 0 0 0 [] V2 = (s, 0) then _ else _
          rw [if_neg (by rw [← HE.out]; intro h; exact H2.out (congrArg Prod.snd h))]
          rfl
      · -- kind 7
        have hw := hKw (by decide)
        have hw : [115, 116, 97, 114, 116] = p0 := by simpa [wordP] using hw
        have f1 : ((ba p0).toList == (⟨#[116, 105, 99, 107]⟩ : ByteArray).toList) = false := lit_ne (u := [116, 105, 99, 107]) (by rw [← hw]; decide)
        have f2 : ((ba p0).toList == (⟨#[112, 97, 99, 107, 101, 116]⟩ : ByteArray).toList) = false := lit_ne (u := [112, 97, 99, 107, 101, 116]) (by rw [← hw]; decide)
        have f3 : ((ba p0).toList == (⟨#[115, 101, 114, 105, 97, 108]⟩ : ByteArray).toList) = false := lit_ne (u := [115, 101, 114, 105, 97, 108]) (by rw [← hw]; decide)
        have f4 : ((ba p0).toList == (⟨#[112, 117, 108, 115, 101]⟩ : ByteArray).toList) = false := lit_ne (u := [112, 117, 108, 115, 101]) (by rw [← hw]; decide)
        have f5 : ((ba p0).toList == (⟨#[100, 114, 97, 119]⟩ : ByteArray).toList) = false := lit_ne (u := [100, 114, 97, 119]) (by rw [← hw]; decide)
        have f6 : ((ba p0).toList == (⟨#[99, 114, 97, 115, 104]⟩ : ByteArray).toList) = false := lit_ne (u := [99, 114, 97, 115, 104]) (by rw [← hw]; decide)
        have f7 : ((ba p0).toList == (⟨#[115, 116, 97, 114, 116]⟩ : ByteArray).toList) = true := lit_eq (u := [115, 116, 97, 114, 116]) hw
        have g1 : ((ba p0).toList == [116, 105, 99, 107]) = false := by simpa using f1
        have g2 : ((ba p0).toList == [112, 97, 99, 107, 101, 116]) = false := by simpa using f2
        have g3 : ((ba p0).toList == [115, 101, 114, 105, 97, 108]) = false := by simpa using f3
        have g4 : ((ba p0).toList == [112, 117, 108, 115, 101]) = false := by simpa using f4
        have g5 : ((ba p0).toList == [100, 114, 97, 119]) = false := by simpa using f5
        have g6 : ((ba p0).toList == [99, 114, 97, 115, 104]) = false := by simpa using f6
        have g7 : ((ba p0).toList == [115, 116, 97, 114, 116]) = true := by simpa using f7
        clear hw hKw hKn
        have hdp : rdecP s = (7, rnumP p1, 0, 0, 0, [], 0) := by unfold rdecP; rw [rdecW]; simp [HP0.out, HP1.out, HP2.out, HP3.out, HP4.out, ← HTK.out]
        have hV1r := rnumP_range p1
        obtain ⟨V1, hV1⟩ : ∃ x, x = rnumP p1 := ⟨_, rfl⟩
        rw [← hV1] at hdp hV1r
        simp only [← hV1] at hl1
        have HV1R := Aside0.mk hV1r
        clear hV1 hV1r
        have HDP := Aside0.mk hdp
        clear hdp
        go_wp2_with (
          first
            | (with_reducible refine (hl1 _).mono ?_); rintro e w2 ⟨rfl, hb⟩
              have hR2 := (HDA.out.next hb (Nat.le_refl _)).raise hb.size
              have r0 := (hR2.next (below_alloc (Below.refl w2.heap.size w2) (.cells #[.int .i64 0, .int .i64 V1, .int .u32 0, .int .u32 0, .int .i64 0, .slice none 0 0, .int .i64 0] 25)) (Nat.le_refl _)).row 0 p0 hp0
              have hK0 : (w2.alloc (.cells #[.int .i64 0, .int .i64 V1, .int .u32 0, .int .u32 0, .int .i64 0, .slice none 0 0, .int .i64 0] 25)).heap[w2.heap.size]? = some (.cells #[.int .i64 0, .int .i64 V1, .int .u32 0, .int .u32 0, .int .i64 0, .slice none 0 0, .int .i64 0] 25 (0, 0)) := heap_alloc_new w2 _
              have hD := hR2.next (below_alloc (Below.refl w2.heap.size w2) (.cells #[.int .i64 7, .int .i64 V1, .int .u32 0, .int .u32 0, .int .i64 0, .slice none 0 0, .int .i64 0] 25)) (Nat.le_refl _)
              have hK : (w2.alloc (.cells #[.int .i64 7, .int .i64 V1, .int .u32 0, .int .u32 0, .int .i64 0, .slice none 0 0, .int .i64 0] 25)).heap[w2.heap.size]? = some (.cells #[.int .i64 7, .int .i64 V1, .int .u32 0, .int .u32 0, .int .i64 0, .slice none 0 0, .int .i64 0] 25 (0, 0)) := heap_alloc_new w2 _
              have k0 := (blk_cell hK 0).trans rfl
              have k1 := (blk_cell hK 1).trans rfl
              have k2 := (blk_cell hK 2).trans rfl
              have k3 := (blk_cell hK 3).trans rfl
              have k4 := (blk_cell hK 4).trans rfl
              have k5 := (blk_cell hK 5).trans rfl
              have k6 := (blk_cell hK 6).trans rfl
              have HD2 := Aside0.mk hD
              have HK2 := Aside0.mk hK
              clear hb hR2 hD hK hK0 r1)
        have hev : EvOk _ V1 0 0 0 none 0 0 [] 0 := ⟨HD2.out.laid, Kd.C_nil _ _, fun b h => absurd h (by simp), by decide, HV1R.out, ⟨by decide, by decide⟩, ⟨by decide, by decide⟩, ⟨by decide, by decide⟩, ⟨by decide, by decide⟩⟩
        have henc := refEncode_calls 7 V1 0 0 0 none 0 0 [] 0 _ hev (Nat.le_refl _)
        clear hev
        unfold evV at henc
        refine henc.mono ?_
        rintro e w9 ⟨rfl, hb⟩
        have hD := HD2.out.next hb (Nat.le_of_lt (blk_lt HK2.out))
        have hK := (hb.block _ (blk_lt HK2.out)).trans HK2.out
        have HD9 := Aside0.mk hD
        have HK9 := Aside0.mk hK
        have q0 := (blk_cell hK 0).trans rfl
        have q1 := (blk_cell hK 1).trans rfl
        have q2 := (blk_cell hK 2).trans rfl
        have q3 := (blk_cell hK 3).trans rfl
        have q4 := (blk_cell hK 4).trans rfl
        have q5 := (blk_cell hK 5).trans rfl
        have q6 := (blk_cell hK 6).trans rfl
        have b0 := (blk_cell hD.b0 0).trans rfl
        have b1 := (blk_cell hD.b0 1).trans rfl
        have b2 := (blk_cell hD.b0 2).trans rfl
        have b3 := (blk_cell hD.b0 3).trans rfl
        have b4 := (blk_cell hD.b0 4).trans rfl
        have b5 := (blk_cell hD.b0 5).trans rfl
        have b6 := (blk_cell hD.b0 6).trans rfl
        have z0 := blk_frozen hD.b0 0
        have z1 := blk_frozen hD.b0 1
        have z2 := blk_frozen hD.b0 2
        have z3 := blk_frozen hD.b0 3
        have z4 := blk_frozen hD.b0 4
        have z5 := blk_frozen hD.b0 5
        have z6 := blk_frozen hD.b0 6
        clear hb hD hK henc
        obtain ⟨E, hE⟩ : ∃ E, E = encP 7 V1 0 0 0 [] 0 := ⟨_, rfl⟩
        rw [← hE]
        obtain ⟨E1, E2⟩ := E
        have HE := Aside0.mk hE
        clear hE
        by_cases h2 : E2 = 0
        · by_cases h1 : E1 = s
          · subst h2
            subst h1
            have hss : ((ba E1).toList == (ba E1).toList) = true := by simp
            go_wp2_with fail
            refine bodyPost_ret (results_ct rfl _ _ w.heap.size 25 #[.int .i64 7, .int .i64 V1, .int .u32 0, .int .u32 0, .int .i64 0, .slice none 0 0, .int .i64 0] (0, 0) _ rfl (put7_blk HD9.out.b0 _ _ _ _ _ _ _) Tryz.underlying25 rfl (by kernel_rfl)) rfl ?_
            refine ⟨put7_below HD9.out.below (Nat.le_refl _) _ _ _ _ _ _ _, ?_⟩
            unfold RDecR
            rw [HDP.out]
            show if encP 7 V1 0 0 0 [] 0 = (E1, 0) then _ else _
            rw [if_pos HE.out.symm]
            exact ⟨none, 0, 0, rfl, ⟨Kd.C_nil _ _, Nat.le_refl _⟩⟩
          · subst h2
            have hss : ((ba E1).toList == (ba s).toList) = false := by simp only [ba, ByteArray.toList_mk]; exact beq_eq_false_iff_ne.2 h1
            have H1 := Aside0.mk h1
            clear h1
            go_wp2_with fail
            refine bodyPost_ret (results_ct rfl _ _ w.heap.size 25 #[.int .i64 0, .int .i64 0, .int .u32 0, .int .u32 0, .int .i64 0, .slice none 0 0, .int .i64 0] (0, 0) _ rfl (put7_blk HD9.out.b0 _ _ _ _ _ _ _) Tryz.underlying25 rfl (by kernel_rfl)) rfl ?_
            refine ⟨put7_below HD9.out.below (Nat.le_refl _) _ _ _ _ _ _ _, ?_⟩
            unfold RDecR
            rw [HDP.out]
            show if encP 7 V1 0 0 0 [] 0 = (s, 0) then _ else _
            rw [if_neg (by rw [← HE.out]; intro h; exact H1.out (congrArg Prod.fst h))]
            rfl
        · have hz : (E2 == 0) = false := beq_eq_false_iff_ne.2 h2
          have hz' : (E2 != 0) = true := by rw [bne, hz]; rfl
          have H2 := Aside0.mk h2
          clear h2
          go_wp2_with fail
          refine bodyPost_ret (results_ct rfl _ _ w.heap.size 25 #[.int .i64 0, .int .i64 0, .int .u32 0, .int .u32 0, .int .i64 0, .slice none 0 0, .int .i64 0] (0, 0) _ rfl (put7_blk HD9.out.b0 _ _ _ _ _ _ _) Tryz.underlying25 rfl (by kernel_rfl)) rfl ?_
          refine ⟨put7_below HD9.out.below (Nat.le_refl _) _ _ _ _ _ _ _, ?_⟩
          unfold RDecR
          rw [HDP.out]
          show if encP 7 V1 0 0 0 [] 0 = (s, 0) then _ else _
          rw [if_neg (by rw [← HE.out]; intro h; exact H2.out (congrArg Prod.snd h))]
          rfl
      · -- kind 8
        have hw := hKw (by decide)
        have hw : [114, 97, 116, 101] = p0 := by simpa [wordP] using hw
        have f1 : ((ba p0).toList == (⟨#[116, 105, 99, 107]⟩ : ByteArray).toList) = false := lit_ne (u := [116, 105, 99, 107]) (by rw [← hw]; decide)
        have f2 : ((ba p0).toList == (⟨#[112, 97, 99, 107, 101, 116]⟩ : ByteArray).toList) = false := lit_ne (u := [112, 97, 99, 107, 101, 116]) (by rw [← hw]; decide)
        have f3 : ((ba p0).toList == (⟨#[115, 101, 114, 105, 97, 108]⟩ : ByteArray).toList) = false := lit_ne (u := [115, 101, 114, 105, 97, 108]) (by rw [← hw]; decide)
        have f4 : ((ba p0).toList == (⟨#[112, 117, 108, 115, 101]⟩ : ByteArray).toList) = false := lit_ne (u := [112, 117, 108, 115, 101]) (by rw [← hw]; decide)
        have f5 : ((ba p0).toList == (⟨#[100, 114, 97, 119]⟩ : ByteArray).toList) = false := lit_ne (u := [100, 114, 97, 119]) (by rw [← hw]; decide)
        have f6 : ((ba p0).toList == (⟨#[99, 114, 97, 115, 104]⟩ : ByteArray).toList) = false := lit_ne (u := [99, 114, 97, 115, 104]) (by rw [← hw]; decide)
        have f7 : ((ba p0).toList == (⟨#[115, 116, 97, 114, 116]⟩ : ByteArray).toList) = false := lit_ne (u := [115, 116, 97, 114, 116]) (by rw [← hw]; decide)
        have f8 : ((ba p0).toList == (⟨#[114, 97, 116, 101]⟩ : ByteArray).toList) = true := lit_eq (u := [114, 97, 116, 101]) hw
        have g1 : ((ba p0).toList == [116, 105, 99, 107]) = false := by simpa using f1
        have g2 : ((ba p0).toList == [112, 97, 99, 107, 101, 116]) = false := by simpa using f2
        have g3 : ((ba p0).toList == [115, 101, 114, 105, 97, 108]) = false := by simpa using f3
        have g4 : ((ba p0).toList == [112, 117, 108, 115, 101]) = false := by simpa using f4
        have g5 : ((ba p0).toList == [100, 114, 97, 119]) = false := by simpa using f5
        have g6 : ((ba p0).toList == [99, 114, 97, 115, 104]) = false := by simpa using f6
        have g7 : ((ba p0).toList == [115, 116, 97, 114, 116]) = false := by simpa using f7
        have g8 : ((ba p0).toList == [114, 97, 116, 101]) = true := by simpa using f8
        clear hw hKw hKn
        have hdp : rdecP s = (8, rnumP p1, 0, 0, 0, [], rnumP p2) := by unfold rdecP; rw [rdecW]; simp [HP0.out, HP1.out, HP2.out, HP3.out, HP4.out, ← HTK.out]
        have hV1r := rnumP_range p1
        obtain ⟨V1, hV1⟩ : ∃ x, x = rnumP p1 := ⟨_, rfl⟩
        rw [← hV1] at hdp hV1r
        simp only [← hV1] at hl1
        have HV1R := Aside0.mk hV1r
        clear hV1 hV1r
        have hV2r := rnumP_range p2
        obtain ⟨V2, hV2⟩ : ∃ x, x = rnumP p2 := ⟨_, rfl⟩
        rw [← hV2] at hdp hV2r
        simp only [← hV2] at hl2
        have HV2R := Aside0.mk hV2r
        clear hV2 hV2r
        have HDP := Aside0.mk hdp
        clear hdp
        go_wp2_with (
          first
            | (with_reducible refine (hl1 _).mono ?_); rintro e w2 ⟨rfl, hb⟩
              have hR2 := (HDA.out.next hb (Nat.le_refl _)).raise hb.size
              have r0 := (hR2.next (below_alloc (Below.refl w2.heap.size w2) (.cells #[.int .i64 0, .int .i64 V1, .int .u32 0, .int .u32 0, .int .i64 0, .slice none 0 0, .int .i64 0] 25)) (Nat.le_refl _)).row 0 p0 hp0
              have hK0 : (w2.alloc (.cells #[.int .i64 0, .int .i64 V1, .int .u32 0, .int .u32 0, .int .i64 0, .slice none 0 0, .int .i64 0] 25)).heap[w2.heap.size]? = some (.cells #[.int .i64 0, .int .i64 V1, .int .u32 0, .int .u32 0, .int .i64 0, .slice none 0 0, .int .i64 0] 25 (0, 0)) := heap_alloc_new w2 _
              have hD := hR2.next (below_alloc (Below.refl w2.heap.size w2) (.cells #[.int .i64 8, .int .i64 V1, .int .u32 0, .int .u32 0, .int .i64 0, .slice none 0 0, .int .i64 0] 25)) (Nat.le_refl _)
              have hK : (w2.alloc (.cells #[.int .i64 8, .int .i64 V1, .int .u32 0, .int .u32 0, .int .i64 0, .slice none 0 0, .int .i64 0] 25)).heap[w2.heap.size]? = some (.cells #[.int .i64 8, .int .i64 V1, .int .u32 0, .int .u32 0, .int .i64 0, .slice none 0 0, .int .i64 0] 25 (0, 0)) := heap_alloc_new w2 _
              have r2 := hD.row 2 _ hp2
              have HD2 := Aside0.mk hD
              have HK2 := Aside0.mk hK
              clear hb hR2 hD hK hK0 r1
            | (with_reducible refine (hl2 _).mono ?_); rintro e w3 ⟨rfl, hb⟩
              have hD := HD2.out.next hb (Nat.le_of_lt (blk_lt HK2.out))
              have hK := (hb.block _ (blk_lt HK2.out)).trans HK2.out
              have kf0 := blk_frozen hK 6
              have kc0 := (blk_cell hK 6).trans rfl
              have hK0 : (w3.setCell ⟨w2.heap.size, 6, none⟩ (.int .i64 V2)).heap[w2.heap.size]? = some (.cells #[.int .i64 8, .int .i64 V1, .int .u32 0, .int .u32 0, .int .i64 0, .slice none 0 0, .int .i64 V2] 25 (0, 0)) := (blk_set hK 6 _).trans rfl
              have hD0 := hD.put 6 (.int .i64 V2)
              have k0 := (blk_cell hK0 0).trans rfl
              have k1 := (blk_cell hK0 1).trans rfl
              have k2 := (blk_cell hK0 2).trans rfl
              have k3 := (blk_cell hK0 3).trans rfl
              have k4 := (blk_cell hK0 4).trans rfl
              have k5 := (blk_cell hK0 5).trans rfl
              have k6 := (blk_cell hK0 6).trans rfl
              have HD3 := Aside0.mk hD0
              have HK3 := Aside0.mk hK0
              clear hb hD hK hK0 hD0)
        have hev : EvOk _ V1 0 0 0 none 0 0 [] V2 := ⟨HD3.out.laid, Kd.C_nil _ _, fun b h => absurd h (by simp), by decide, HV1R.out, ⟨by decide, by decide⟩, ⟨by decide, by decide⟩, ⟨by decide, by decide⟩, HV2R.out⟩
        have henc := refEncode_calls 8 V1 0 0 0 none 0 0 [] V2 _ hev (Nat.le_refl _)
        clear hev
        unfold evV at henc
        refine henc.mono ?_
        rintro e w9 ⟨rfl, hb⟩
        have hD := HD3.out.next hb (Nat.le_of_lt (blk_lt HK3.out))
        have hK := (hb.block _ (blk_lt HK3.out)).trans HK3.out
        have HD9 := Aside0.mk hD
        have HK9 := Aside0.mk hK
        have q0 := (blk_cell hK 0).trans rfl
        have q1 := (blk_cell hK 1).trans rfl
        have q2 := (blk_cell hK 2).trans rfl
        have q3 := (blk_cell hK 3).trans rfl
        have q4 := (blk_cell hK 4).trans rfl
        have q5 := (blk_cell hK 5).trans rfl
        have q6 := (blk_cell hK 6).trans rfl
        have b0 := (blk_cell hD.b0 0).trans rfl
        have b1 := (blk_cell hD.b0 1).trans rfl
        have b2 := (blk_cell hD.b0 2).trans rfl
        have b3 := (blk_cell hD.b0 3).trans rfl
        have b4 := (blk_cell hD.b0 4).trans rfl
        have b5 := (blk_cell hD.b0 5).trans rfl
        have b6 := (blk_cell hD.b0 6).trans rfl
        have z0 := blk_frozen hD.b0 0
        have z1 := blk_frozen hD.b0 1
        have z2 := blk_frozen hD.b0 2
        have z3 := blk_frozen hD.b0 3
        have z4 := blk_frozen hD.b0 4
        have z5 := blk_frozen hD.b0 5
        have z6 := blk_frozen hD.b0 6
        clear hb hD hK henc
        obtain ⟨E, hE⟩ : ∃ E, E = encP 8 V1 0 0 0 [] V2 := ⟨_, rfl⟩
        rw [← hE]
        obtain ⟨E1, E2⟩ := E
        have HE := Aside0.mk hE
        clear hE
        by_cases h2 : E2 = 0
        · by_cases h1 : E1 = s
          · subst h2
            subst h1
            have hss : ((ba E1).toList == (ba E1).toList) = true := by simp
            go_wp2_with fail
            refine bodyPost_ret (results_ct rfl _ _ w.heap.size 25 #[.int .i64 8, .int .i64 V1, .int .u32 0, .int .u32 0, .int .i64 0, .slice none 0 0, .int .i64 V2] (0, 0) _ rfl (put7_blk HD9.out.b0 _ _ _ _ _ _ _) Tryz.underlying25 rfl (by kernel_rfl)) rfl ?_
            refine ⟨put7_below HD9.out.below (Nat.le_refl _) _ _ _ _ _ _ _, ?_⟩
            unfold RDecR
            rw [HDP.out]
            show if encP 8 V1 0 0 0 [] V2 = (E1, 0) then _ else _
            rw [if_pos HE.out.symm]
            exact ⟨none, 0, 0, rfl, ⟨Kd.C_nil _ _, Nat.le_refl _⟩⟩
          · subst h2
            have hss : ((ba E1).toList == (ba s).toList) = false := by simp only [ba, ByteArray.toList_mk]; exact beq_eq_false_iff_ne.2 h1
            have H1 := Aside0.mk h1
            clear h1
            go_wp2_with fail
            refine bodyPost_ret (results_ct rfl _ _ w.heap.size 25 #[.int .i64 0, .int .i64 0, .int .u32 0, .int .u32 0, .int .i64 0, .slice none 0 0, .int .i64 0] (0, 0) _ rfl (put7_blk HD9.out.b0 _ _ _ _ _ _ _) Tryz.underlying25 rfl (by kernel_rfl)) rfl ?_
            refine ⟨put7_below HD9.out.below (Nat.le_refl _) _ _ _ _ _ _ _, ?_⟩
            unfold RDecR
            rw [HDP.out]
            show if encP 8 V1 0 0 0 [] V2 = (s, 0) then _ else _
            rw [if_neg (by rw [← HE.out]; intro h; exact H1.out (congrArg Prod.fst h))]
            rfl
        · have hz : (E2 == 0) = false := beq_eq_false_iff_ne.2 h2
          have hz' : (E2 != 0) = true := by rw [bne, hz]; rfl
          have H2 := Aside0.mk h2
          clear h2
          go_wp2_with fail
          refine bodyPost_ret (results_ct rfl _ _ w.heap.size 25 #[.int .i64 0, .int .i64 0, .int .u32 0, .int .u32 0, .int .i64 0, .slice none 0 0, .int .i64 0] (0, 0) _ rfl (put7_blk HD9.out.b0 _ _ _ _ _ _ _) Tryz.underlying25 rfl (by kernel_rfl)) rfl ?_
          refine ⟨put7_below HD9.out.below (Nat.le_refl _) _ _ _ _ _ _ _, ?_⟩
          unfold RDecR
          rw [HDP.out]
          show if encP 8 V1 0 0 0 [] V2 = (s, 0) then _ else _
          rw [if_neg (by rw [← HE.out]; intro h; exact H2.out (congrArg Prod.snd h))]
          rfl
end Go.Proofs.YtdndmbcejoodpaaGreatDoor
