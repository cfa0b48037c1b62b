/- The reference's number, cut, Addr (as the print has them) are the plain ones; its digits and PrintAddr walked. -/
import Derived.Test.YtdndmbcejoodpaaGreatDoorCPrint
import Derived.Test.YtdndmbcejoodpaaGreatDoorPAddrx1
namespace Go.Proofs.YtdndmbcejoodpaaGreatDoor
open Go.RowKit Go.Proofs.YtdndmbcejoodpaaGreatDoorW.PrintWords Go.Proofs.YtdndmbcejoodpaaGreatDoorW.PrintLast Go.Proofs.YtdndmbcejoodpaaGreatDoorW.PrintMore Go.Proofs.YtdndmbcejoodpaaGreatDoor.PAddr
set_option linter.unusedVariables false
set_option linter.unusedSimpArgs false
theorem wrap_id {x : Int} (h0 : -9223372036854775808 ≤ x) (h1 : x ≤ 9223372036854775807) : wrap64 x = x := by unfold wrap64; omega
theorem bt_drop (s : ByteArray) (i : Nat) (c : UInt8) (r : List UInt8) (h : s.data.toList.drop i = c :: r) : bt s (i : Int) = (c.toNat : Int) ∧ i < s.size ∧ s.data.toList.drop (i + 1) = r := by
  have hi : i < s.data.toList.length := by
    rcases Nat.lt_or_ge i s.data.toList.length with h' | h'
    · exact h'
    · rw [List.drop_eq_nil_of_le h'] at h; cases h
  have hs : s.data.toList.length = s.size := by rw [Array.length_toList]; rfl
  rw [List.drop_eq_getElem_cons hi] at h
  injection h with h1 h2
  refine ⟨?_, by omega, h2⟩
  unfold bt
  rw [dif_pos (by simp; omega)]
  simp only [Int.toNat_natCast]
  rw [← h1]
  rfl
theorem num_loop (s : ByteArray) (hs : s.size ≤ 4294967296) : ∀ (rest : List UInt8) (k i : Nat) (n : Int), s.data.toList.drop i = rest → rest.length < k → 0 ≤ n → (n + 1) * 10 ^ rest.length ≤ 10000000000 →
    foliotref05_number.l0 k s n (i : Int) = some (if rest.all isDig = true then spell n rest else -1) := by
  intro rest
  induction rest with
  | nil =>
    intro k i n hd hk h0 hb
    obtain ⟨k, rfl⟩ : ∃ m, k = m + 1 := ⟨k - 1, by omega⟩
    have hl : s.size ≤ i := by
      have := List.drop_eq_nil_iff.1 hd
      have hs : s.data.toList.length = s.size := by rw [Array.length_toList]; rfl
      omega
    simp only [foliotref05_number.l0]
    rw [if_neg (by omega)]
    simp [spell]
  | cons c r ih =>
    intro k i n hd hk h0 hb
    obtain ⟨k, rfl⟩ : ∃ m, k = m + 1 := ⟨k - 1, by omega⟩
    obtain ⟨hbt, hi, hd'⟩ := bt_drop s i c r hd
    have h1 : (1 : Int) ≤ 10 ^ r.length := by have := Nat.one_le_pow r.length 10 (by decide); exact_mod_cast this
    have e : (n + 1) * 10 ^ (r.length + 1) = ((n + 1) * 10) * 10 ^ r.length := by rw [Int.pow_succ', Int.mul_assoc]
    simp only [List.length_cons] at hb hk
    rw [e] at hb
    have hle : (n + 1) * 10 ≤ ((n + 1) * 10) * 10 ^ r.length := by
      have := Int.mul_le_mul_of_nonneg_left h1 (show 0 ≤ (n + 1) * 10 by omega)
      omega
    simp only [foliotref05_number.l0]
    rw [if_pos (by omega), if_pos (by omega), hbt]
    by_cases hlo : (c.toNat : Int) < 48
    · rw [if_pos hlo, if_neg]
      simp only [List.all_cons, Bool.and_eq_true]
      rintro ⟨h, _⟩
      have := (isDig_iff c).1 h
      omega
    · rw [if_neg hlo]
      by_cases hhi : (c.toNat : Int) > 57
      · rw [if_pos hhi, if_neg]
        simp only [List.all_cons, Bool.and_eq_true]
        rintro ⟨h, _⟩
        have := (isDig_iff c).1 h
        omega
      · rw [if_neg hhi, wrap_id (x := n * 10) (by omega) (by omega), show ((c.toNat : Int) - 48) % 256 = (c.toNat : Int) - 48 by omega, wrap_id (by omega) (by omega), wrap_id (by omega) (by omega),
          show (i : Int) + 1 = ((i + 1 : Nat) : Int) by omega]
        have hb2 : (n * 10 + ((c.toNat : Int) - 48) + 1) * 10 ^ r.length ≤ ((n + 1) * 10) * 10 ^ r.length := Int.mul_le_mul_of_nonneg_right (by omega) (by omega)
        rw [ih k (i + 1) _ hd' (by omega) (by omega) (by omega)]
        have hc : isDig c = true := (isDig_iff c).2 (by omega)
        simp only [List.all_cons, hc, Bool.true_and, spell]
theorem num_ref (s : ByteArray) (hs : s.size ≤ 4294967296) (k : Nat) (hk : s.size + 3 ≤ k) : foliotref05_number.f k s = some ((numP s.data.toList).getD (-1)) := by
  obtain ⟨k, rfl⟩ : ∃ m, k = m + 1 := ⟨k - 1, by omega⟩
  have hl : s.data.toList.length = s.size := by rw [Array.length_toList]; rfl
  unfold foliotref05_number.f numP
  by_cases h0 : s.size = 0
  · rw [if_pos (by omega), if_pos (.inl (by omega))]
    simp [foliotref05_number.j0]
  · rw [if_neg (by omega)]
    by_cases h10 : s.size > 10
    · rw [if_pos (by omega), if_pos (.inr (.inl (by omega)))]
      simp [foliotref05_number.j0]
    · rw [if_neg (by omega), if_pos (by omega)]
      match hq : s.data.toList with
      | [] => rw [hq] at hl; simp at hl; omega
      | c :: r =>
        obtain ⟨hbt, _, _⟩ := bt_drop s 0 c r (by simpa using hq)
        have hbt : bt s 0 = (c.toNat : Int) := hbt
        rw [hbt]
        have hrest := num_loop s hs (c :: r) k 0 0 (by simpa using hq) (by rw [← hq]; omega) (by decide) (by
          have h1 := Nat.pow_le_pow_right (show 0 < 10 by decide) (show (c :: r).length ≤ 10 by rw [← hq]; omega)
          have h2 : ((10 ^ (c :: r).length : Nat) : Int) ≤ ((10 ^ 10 : Nat) : Int) := by exact_mod_cast h1
          have h3 : ((10 ^ 10 : Nat) : Int) = 10000000000 := by decide
          simp only [Int.natCast_pow] at h2 h3
          have h4 : ((10 : Nat) : Int) = 10 := rfl
          rw [h4] at h2 h3
          omega)
        have hrest : foliotref05_number.l0 k s 0 0 = _ := hrest
        have hlead : (s.data.toList.head? = some 48 ∧ 1 < s.data.toList.length) ↔ ((c.toNat : Int) = 48 ∧ s.size > 1) := by
          rw [hq]
          simp only [List.head?_cons, Option.some.injEq]
          constructor
          · rintro ⟨h1, h2⟩
            subst h1
            exact ⟨rfl, by rw [← hl, hq]; exact h2⟩
          · rintro ⟨h1, h2⟩
            exact ⟨UInt8.toNat_inj.1 (by simp; omega), by rw [← hq]; omega⟩
        rw [hq] at hlead
        by_cases hL : (c.toNat : Int) = 48 ∧ s.size > 1
        · rw [if_pos hL.1, if_pos (.inr (.inr (.inl (hlead.2 hL))))]
          simp only [foliotref05_number.j0]
          rw [if_pos (decide_eq_true (by omega))]
          rfl
        · have hj : (if (c.toNat : Int) = 48 then foliotref05_number.j0 (k + 1) s (decide ((s.size : Int) > 1)) else foliotref05_number.j0 (k + 1) s false) = foliotref05_number.l0 k s 0 0 := by
            split
            · rename_i h
              simp only [foliotref05_number.j0]
              rw [if_neg]
              intro h'
              exact hL ⟨h, by have := of_decide_eq_true h'; omega⟩
            · simp [foliotref05_number.j0]
          rw [hj, hrest]
          cases hd : (c :: r).all isDig with
          | true =>
            rw [if_pos rfl, if_neg]
            · rfl
            rintro (h | h | h | h)
            · simp at h
            · rw [← hq] at h; omega
            · exact hL (hlead.1 h)
            · cases h
          | false =>
            rw [if_neg (by simp), if_pos (.inr (.inr (.inr rfl)))]
            rfl
theorem cut_loop (s : ByteArray) (c : UInt8) (hs : s.size ≤ 4294967296) : ∀ (rest : List UInt8) (k i fr : Nat) (done : List ByteArray), s.data.toList.drop i = rest → rest.length < k → i ≤ s.size → fr ≤ i → done.length + rest.length < 8796093022208 →
    ∃ r, foliotref05_cut.l0 k s (c.toNat : Int) done (fr : Int) (i : Int) = some (done ++ r) ∧ r.map (·.data.toList) = splitP c ((s.data.toList.take i).drop fr) rest := by
  intro rest
  have hl : s.data.toList.length = s.size := by rw [Array.length_toList]; rfl
  induction rest with
  | nil =>
    intro k i fr done hd hk hi hf hn
    obtain ⟨k, rfl⟩ : ∃ m, k = m + 1 := ⟨k - 1, by omega⟩
    have he : i = s.size := by
      have := List.drop_eq_nil_iff.1 hd
      omega
    simp only [List.length_nil] at hn
    refine ⟨[s.extract fr s.size], ?_, ?_⟩
    · simp only [foliotref05_cut.l0]
      rw [if_neg (by omega), if_pos (by omega), if_pos (by omega), if_pos (by omega)]
      simp
    · simp only [List.map_cons, List.map_nil, splitP]
      rw [Lib.extract_data, he, List.take_of_length_le (l := s.data.toList) (by omega), List.take_of_length_le (by simp)]
  | cons a r ih =>
    intro k i fr done hd hk hi hf hn
    obtain ⟨k, rfl⟩ : ∃ m, k = m + 1 := ⟨k - 1, by omega⟩
    obtain ⟨hbt, hi', hd'⟩ := bt_drop s i a r hd
    simp only [List.length_cons] at hn hk
    have htake : s.data.toList.take (i + 1) = s.data.toList.take i ++ [a] := by
      rw [List.take_add_one]
      have : s.data.toList[i]? = some a := by
        have := congrArg List.head? hd
        simpa using this
      rw [this]; rfl
    simp only [foliotref05_cut.l0]
    rw [if_pos (by omega), if_pos (by omega), hbt]
    by_cases hac : a = c
    · subst hac
      rw [if_pos rfl, if_pos (by omega), if_pos (by omega), if_pos (by omega), if_pos (by omega), wrap_id (by omega) (by omega), show (i : Int) + 1 = ((i + 1 : Nat) : Int) by omega]
      obtain ⟨q, hq, hm⟩ := ih k (i + 1) (i + 1) (done ++ [s.extract fr i]) hd' (by omega) (by omega) (by omega) (by simp; omega)
      simp only [Int.toNat_natCast]
      refine ⟨s.extract fr i :: q, by rw [hq]; simp, ?_⟩
      simp only [List.map_cons]
      rw [splitP, if_pos rfl, hm, Lib.extract_data]
      congr 1
      · rw [List.drop_take]
      · rw [List.drop_eq_nil_of_le (by simp; omega)]
    · have hne : ¬ ((a.toNat : Int) = (c.toNat : Int)) := by
        intro h
        exact hac (UInt8.toNat_inj.1 (by omega))
      rw [if_neg hne, wrap_id (by omega) (by omega), show (i : Int) + 1 = ((i + 1 : Nat) : Int) by omega]
      obtain ⟨q, hq, hm⟩ := ih k (i + 1) fr done hd' (by omega) (by omega) (by omega) (by omega)
      refine ⟨q, hq, ?_⟩
      rw [hm, splitP, if_neg hac, htake, List.drop_append_of_le_length (by simp; omega)]
theorem cut_ref (s : ByteArray) (c : UInt8) (hs : s.size ≤ 4294967296) (k : Nat) (hk : s.size + 1 ≤ k) : ∃ r, foliotref05_cut.f k s (c.toNat : Int) = some r ∧ r.map (·.data.toList) = splitP c [] s.data.toList := by
  have hl : s.data.toList.length = s.size := by rw [Array.length_toList]; rfl
  obtain ⟨r, h1, h2⟩ := cut_loop s c hs s.data.toList k 0 0 [] (by simp) (by omega) (by omega) (by omega) (by rw [List.length_nil]; omega)
  exact ⟨r, h1, h2⟩
theorem addr_loop (ps : List ByteArray) (k : Nat) (h4 : ps.length = 4) (hk : ∀ p ∈ ps, p.size + 3 ≤ k ∧ p.size ≤ 4294967296) : ∀ (d i : Nat) (m : Nat) (a : Int), i + d = 4 → k + d < m → 0 ≤ a → (a + 1) * 256 ^ d ≤ 4294967296 →
    foliotref05_Addr.l0 m ps a (i : Int) = some (addrL ((ps.map (·.data.toList)).drop i) a) := by
  intro d
  induction d with
  | zero =>
    intro i m a hi hm h0 hb
    obtain ⟨m, rfl⟩ : ∃ j, m = j + 1 := ⟨m - 1, by omega⟩
    simp only [foliotref05_Addr.l0]
    rw [if_neg (by omega), List.drop_eq_nil_of_le (by simp; omega)]
    rfl
  | succ d ih =>
    intro i m a hi hm h0 hb
    obtain ⟨m, rfl⟩ : ∃ j, m = j + 1 := ⟨m - 1, by omega⟩
    have hlt : i < ps.length := by omega
    have hrd : rdOf ByteArray.empty ps (i : Int) = ps[i] := by simp [rdOf, List.getD_eq_getElem?_getD, List.getElem?_eq_getElem hlt]
    have hmem := hk ps[i] (List.getElem_mem hlt)
    have hdr : (ps.map (·.data.toList)).drop i = (ps[i]).data.toList :: (ps.map (·.data.toList)).drop (i + 1) := by
      rw [List.drop_eq_getElem_cons (by simp; omega)]
      simp
    simp only [foliotref05_Addr.l0]
    rw [if_pos (by omega), if_pos (by omega), if_pos (by omega), hrd, num_ref _ hmem.2 m (by omega), hdr]
    simp only [Option.bind_some]
    cases hp : numP (ps[i]).data.toList with
    | none => simp [addrL, hp]
    | some n =>
      obtain ⟨n0, n1, _⟩ := numP_some hp
      simp only [Option.getD_some]
      rw [if_neg (by omega)]
      by_cases h255 : n > 255
      · rw [if_pos h255]; simp [addrL, hp, h255]
      · have e : (a + 1) * 256 ^ (d + 1) = ((a + 1) * 256) * 256 ^ d := by rw [Int.pow_succ', Int.mul_assoc]
        have h1 : (1 : Int) ≤ 256 ^ d := Int.pow_pos (show (0 : Int) < 256 by decide)
        have hle : (a + 1) * 256 ≤ ((a + 1) * 256) * 256 ^ d := by
          have := Int.mul_le_mul_of_nonneg_left h1 (show 0 ≤ (a + 1) * 256 by omega)
          omega
        have hb2 : (a * 256 + n + 1) * 256 ^ d ≤ ((a + 1) * 256) * 256 ^ d := Int.mul_le_mul_of_nonneg_right (by omega) (by omega)
        rw [if_neg h255, wrap_id (by omega) (by omega), show (((a * 256) % 4294967296) + (n % 4294967296)) % 4294967296 = a * 256 + n by omega, show (i : Int) + 1 = ((i + 1 : Nat) : Int) by omega,
          ih (i + 1) m (a * 256 + n) (by omega) (by omega) (by omega) (by omega)]
        simp [addrL, hp, h255]
theorem addr_ref (s : ByteArray) (hs : s.size ≤ 4294967296) : foliotref05_Addr.f (s.size + 20) s = some (addrP s.data.toList) := by
  have hl : s.data.toList.length = s.size := by rw [Array.length_toList]; rfl
  obtain ⟨r, h1, h2⟩ := cut_ref s 46 hs (s.size + 20) (by omega)
  have h1 : foliotref05_cut.f (s.size + 20) s 46 = some r := h1
  unfold foliotref05_Addr.f addrP
  rw [h1, ← h2]
  simp only [Option.bind_some, List.length_map]
  by_cases h4 : r.length = 4
  · rw [if_pos (by omega), if_pos h4]
    have hsz : ∀ p ∈ r, p.size ≤ s.size := fun p hp => by
      have h3 : p.data.toList ∈ splitP 46 [] s.data.toList := by rw [← h2]; exact List.mem_map.2 ⟨p, hp, rfl⟩
      have h5 := splitP_le 46 s.data.toList [] _ h3
      simp only [List.length_nil, Nat.zero_add, Array.length_toList] at h5
      exact h5
    have := addr_loop r (s.size + 3) h4 (fun p hp => ⟨by have := hsz p hp; omega, by have := hsz p hp; omega⟩) 4 0 (s.size + 20) 0 (by omega) (by omega) (by decide) (by decide)
    simpa using this
  · rw [if_neg (by omega), if_neg h4]
theorem refAddr_calls (s : ByteArray) (w : World) (hs : s.size < 4294967281) :
    Calls Tryz.prog 41 #[.string s] w fun e w' => e = .returned (addrV (addrP s.data.toList)) ∧ Below w.heap.size w w' :=
  foliotref05_Addr.calls _ s (addrP s.data.toList).1 (addrP s.data.toList).2 w (addr_ref s (by omega))
end Go.Proofs.YtdndmbcejoodpaaGreatDoor
