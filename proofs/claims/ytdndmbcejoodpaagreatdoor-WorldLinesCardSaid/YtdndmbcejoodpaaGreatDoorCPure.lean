/- Dotted addresses and decimal numerals as lists of bytes: plain laws, no program. -/
import Derived.Lib.ItoaNum
import Derived.Lib.AtoiAll
import Derived.Lib.SplitLaws
import Derived.Lib.SlTrimSet
import Derived.Lib.Join
namespace Go.Proofs.YtdndmbcejoodpaaGreatDoor
open Go.Lib

def isDig (c : UInt8) : Bool := decide (48 ≤ c.toNat ∧ c.toNat ≤ 57)
/-- What digits spell, behind n. -/
def spell (n : Int) : List UInt8 → Int
  | [] => n
  | c :: r => spell (n * 10 + ((c.toNat : Int) - 48)) r
/-- R7: a number from 0 on, ten digits at most, no nought ahead. -/
def numP (l : List UInt8) : Option Int :=
  if l.length = 0 ∨ 10 < l.length ∨ (l.head? = some 48 ∧ 1 < l.length) ∨ l.all isDig = false then none else some (spell 0 l)
/-- Cut at each c. -/
def splitP (c : UInt8) : List UInt8 → List UInt8 → List (List UInt8)
  | cur, [] => [cur]
  | cur, a :: r => if a = c then cur :: splitP c [] r else splitP c (cur ++ [a]) r
def glue (c : UInt8) : List (List UInt8) → List UInt8
  | [] => []
  | [p] => p
  | p :: q :: r => p ++ c :: glue c (q :: r)
def addrL : List (List UInt8) → Int → Int × Int
  | [], a => (a, 0)
  | p :: r, a => match numP p with
    | some n => if n > 255 then (0, 52) else addrL r (a * 256 + n)
    | none => (0, 52)
def addrP (l : List UInt8) : Int × Int := if (splitP 46 [] l).length = 4 then addrL (splitP 46 [] l) 0 else (0, 52)
/-- A number's numeral. -/
def numeral (n : Int) : List UInt8 := decDigits n.toNat
def partsP (a : Int) : List (List UInt8) := [numeral (a / 16777216 % 256), numeral (a / 65536 % 256), numeral (a / 256 % 256), numeral (a % 256)]
def printP (a : Int) : List UInt8 := glue 46 (partsP a)

theorem spell_snoc (l : List UInt8) (c : UInt8) : ∀ n, spell n (l ++ [c]) = spell n l * 10 + ((c.toNat : Int) - 48) := by
  induction l with
  | nil => intro n; rfl
  | cons a r ih => intro n; exact ih _
theorem isDig_iff (c : UInt8) : isDig c = true ↔ 48 ≤ c.toNat ∧ c.toNat ≤ 57 := by unfold isDig; simp
theorem spell_nonneg (l : List UInt8) : ∀ n : Int, 0 ≤ n → l.all isDig = true → 0 ≤ spell n l := by
  induction l with
  | nil => intro n h _; exact h
  | cons a r ih =>
    intro n h hd
    simp only [List.all_cons, Bool.and_eq_true] at hd
    have := (isDig_iff a).1 hd.1
    exact ih _ (by omega) hd.2
theorem spell_lt (l : List UInt8) : ∀ n : Int, 0 ≤ n → l.all isDig = true → spell n l < (n + 1) * 10 ^ l.length := by
  induction l with
  | nil => intro n h _; simp only [spell, List.length_nil, Int.pow_zero]; omega
  | cons a r ih =>
    intro n h hd
    simp only [List.all_cons, Bool.and_eq_true] at hd
    have ha := (isDig_iff a).1 hd.1
    have h1 := ih (n * 10 + ((a.toNat : Int) - 48)) (by omega) hd.2
    have h2 : (n * 10 + ((a.toNat : Int) - 48) + 1) * 10 ^ r.length ≤ ((n + 1) * 10) * 10 ^ r.length := Int.mul_le_mul_of_nonneg_right (by omega) (Int.pow_nonneg (by decide))
    have e : (n + 1) * 10 ^ (r.length + 1) = ((n + 1) * 10) * 10 ^ r.length := by rw [Int.pow_succ', Int.mul_assoc]
    simp only [spell, List.length_cons]
    rw [e]
    omega
theorem spell_pos (a : UInt8) (r : List UInt8) (h : a.toNat ≠ 48) (hd : (a :: r).all isDig = true) : 1 ≤ spell 0 (a :: r) := by
  simp only [List.all_cons, Bool.and_eq_true] at hd
  have ha := (isDig_iff a).1 hd.1
  have hgen : ∀ (l : List UInt8) (n : Int), 1 ≤ n → l.all isDig = true → 1 ≤ spell n l := by
    intro l
    induction l with
    | nil => intro n h _; exact h
    | cons b r ih =>
      intro n h hd
      simp only [List.all_cons, Bool.and_eq_true] at hd
      have hb := (isDig_iff b).1 hd.1
      exact ih _ (by omega) hd.2
  exact hgen r _ (by omega) hd.2
/-- A byte out of its value. -/
theorem byte_of (c : UInt8) (d : Nat) (h : c.toNat = 48 + d) : UInt8.ofNat (48 + d) = c := by rw [← h]; simp
theorem snoc_cases (l : List UInt8) : l = [] ∨ ∃ r c, l = r ++ [c] := by
  rcases List.eq_nil_or_concat l with h | ⟨r, c, h⟩
  · exact .inl h
  · exact .inr ⟨r, c, by simpa using h⟩
/-- A numeral without a nought ahead is its number's. -/
theorem numeral_spell : ∀ (k : Nat) (l : List UInt8), l.length = k → 1 ≤ k → (l.head? = some 48 → k = 1) → l.all isDig = true → numeral (spell 0 l) = l := by
  intro k
  induction k with
  | zero => intro l _ h; omega
  | succ k ih =>
    intro l hl _ hz hd
    rcases snoc_cases l with rfl | ⟨r, c, rfl⟩
    · simp at hl
    · simp only [List.length_append, List.length_cons, List.length_nil] at hl
      have hk : r.length = k := by omega
      simp only [List.all_append, List.all_cons, List.all_nil, Bool.and_true, Bool.and_eq_true] at hd
      have hc := (isDig_iff c).1 hd.2
      rw [spell_snoc]
      unfold numeral
      rcases r with _ | ⟨a, r⟩
      · simp only [spell]
        rw [decDigits, dif_pos (by omega)]
        simp only [List.nil_append, List.cons.injEq, and_true]
        exact byte_of c _ (by omega)
      · have ha : a.toNat ≠ 48 := by
          intro h
          have : a = 48 := by apply UInt8.toNat_inj.1; simpa using h
          subst this
          have := hz rfl
          simp only [List.length_cons] at hk
          omega
        have hp := spell_pos a r ha hd.1
        have ihr := ih (a :: r) hk (by simp only [List.length_cons] at hk; omega) (fun h => absurd (by simpa using h) (fun (e : a = 48) => ha (by rw [e]; rfl))) hd.1
        unfold numeral at ihr
        obtain ⟨m, hm⟩ : ∃ m : Nat, spell 0 (a :: r) = m := ⟨(spell 0 (a :: r)).toNat, by omega⟩
        rw [hm] at ihr hp ⊢
        rw [decDigits, dif_neg (by omega)]
        have e1 : ((m : Int) * 10 + ((c.toNat : Int) - 48)).toNat / 10 = m := by omega
        have e2 : ((m : Int) * 10 + ((c.toNat : Int) - 48)).toNat % 10 = c.toNat - 48 := by omega
        rw [e1, e2]
        rw [show ((m : Int)).toNat = m by omega] at ihr
        rw [ihr, byte_of c _ (by omega)]
theorem decDigits_dig (n : Nat) : (decDigits n).all isDig = true := by
  induction n using Nat.strongRecOn with
  | _ n ih =>
    have hb : ∀ d, d < 10 → isDig (UInt8.ofNat (48 + d)) = true := by
      intro d hd
      rw [isDig_iff]
      have : (UInt8.ofNat (48 + d)).toNat = 48 + d := by simp; omega
      omega
    rw [decDigits]
    split
    · simp only [List.all_cons, List.all_nil, hb n (by omega), Bool.and_self]
    · simp only [List.all_append, List.all_cons, List.all_nil, ih (n / 10) (by omega), hb (n % 10) (by omega), Bool.and_self]
theorem spell_decDigits (n : Nat) : spell 0 (decDigits n) = n := by
  induction n using Nat.strongRecOn with
  | _ n ih =>
    have hb : ∀ d, d < 10 → ((UInt8.ofNat (48 + d)).toNat : Int) - 48 = d := by
      intro d hd
      have : (UInt8.ofNat (48 + d)).toNat = 48 + d := by simp; omega
      omega
    rw [decDigits]
    split
    · simp only [spell]; rw [hb n (by omega)]; omega
    · rw [spell_snoc, ih (n / 10) (by omega), hb (n % 10) (by omega)]; omega
theorem decDigits_head (n : Nat) (h : (decDigits n).head? = some 48) : (decDigits n).length = 1 := by
  induction n using Nat.strongRecOn with
  | _ n ih =>
    rw [decDigits] at h ⊢
    split
    · rfl
    · rename_i hn
      rw [dif_neg hn] at h
      have hne : decDigits (n / 10) ≠ [] := by
        intro e
        have := decDigits_length (n / 10)
        rw [e] at this
        have := nDigits_pos (n / 10)
        simp at *
        omega
      have h : (decDigits (n / 10)).head? = some 48 := by
        match hd : decDigits (n / 10), hne with
        | a :: r, _ => rw [hd] at h; simpa using h
      have h1 := ih (n / 10) (by omega) h
      -- one digit, and it is 0: then n < 10
      exfalso
      match hd : decDigits (n / 10), hne with
      | [a], _ =>
        have hs := spell_decDigits (n / 10)
        rw [hd] at h hs
        simp only [List.head?_cons, Option.some.injEq] at h
        subst h
        simp only [spell] at hs
        have : ((48 : UInt8).toNat : Int) = 48 := rfl
        omega
      | a :: b :: r, _ => rw [hd] at h1; simp at h1
theorem nDigits_le (n k : Nat) (hk : 1 ≤ k) (h : n < 10 ^ k) : nDigits n ≤ k := by
  rcases Nat.lt_or_ge k (nDigits n) with hlt | hge
  · exfalso
    by_cases h0 : n < 10
    · rw [nDigits_small h0] at hlt; omega
    · have h1 : ∃ j, 10 ^ j ≤ n ∧ n < 10 ^ (j + 1) := by
        have : ∀ m, n < 10 ^ m → ∃ j, 10 ^ j ≤ n ∧ n < 10 ^ (j + 1) := by
          intro m
          induction m with
          | zero => intro h; simp at h; omega
          | succ m ihm =>
            intro h
            by_cases hm : n < 10 ^ m
            · exact ihm hm
            · exact ⟨m, by omega, h⟩
        exact this k h
      obtain ⟨j, hj1, hj2⟩ := h1
      have := nDigits_unique j n hj1 hj2
      have hjk : j < k := by
        rcases Nat.lt_or_ge j k with h' | h'
        · exact h'
        · have := Nat.pow_le_pow_right (by decide : 0 < 10) h'
          omega
      omega
  · exact hge
theorem numP_numeral (n : Int) (h0 : 0 ≤ n) (h1 : n < 10000000000) : numP (numeral n) = some n := by
  unfold numP numeral
  obtain ⟨m, rfl⟩ : ∃ m : Nat, n = m := ⟨n.toNat, by omega⟩
  rw [show ((m : Int)).toNat = m by omega]
  have hl := decDigits_length m
  have hp := nDigits_pos m
  have hle := nDigits_le m 10 (by decide) (by omega)
  rw [if_neg, spell_decDigits]
  rintro (h | h | ⟨h, h2⟩ | h)
  · omega
  · omega
  · have := decDigits_head m h; omega
  · rw [decDigits_dig] at h; cases h
theorem numP_some {l : List UInt8} {n : Int} (h : numP l = some n) : 0 ≤ n ∧ n < 10000000000 ∧ numeral n = l ∧ l.all isDig = true ∧ 1 ≤ l.length ∧ l.length ≤ 10 := by
  unfold numP at h
  split at h
  · cases h
  · rename_i hc
    injection h with h
    subst h
    have hd : l.all isDig = true := by
      cases hq : l.all isDig with
      | true => rfl
      | false => exact absurd (.inr (.inr (.inr hq))) hc
    have hl : 1 ≤ l.length := by
      rcases Nat.eq_zero_or_pos l.length with h | h
      · exact absurd (.inl h) hc
      · exact h
    have hl2 : l.length ≤ 10 := by
      rcases Nat.lt_or_ge 10 l.length with h | h
      · exact absurd (.inr (.inl h)) hc
      · exact h
    refine ⟨spell_nonneg l 0 (by decide) hd, ?_, numeral_spell l.length l rfl hl (fun hz => ?_) hd, hd, hl, hl2⟩
    · have h1 := spell_lt l 0 (by decide) hd
      have h2 : (10 : Int) ^ l.length ≤ 10 ^ 10 := by
        have := Nat.pow_le_pow_right (by decide : 0 < 10) hl2
        exact_mod_cast this
      have : (10 : Int) ^ 10 = 10000000000 := by decide
      omega
    · rcases Nat.lt_or_ge 1 l.length with h | h
      · exact absurd (.inr (.inr (.inl ⟨hz, h⟩))) hc
      · omega
theorem splitP_ne (c : UInt8) : ∀ (l cur : List UInt8), splitP c cur l ≠ [] := by
  intro l
  induction l with
  | nil => intro cur; simp [splitP]
  | cons a r ih => intro cur; unfold splitP; split; exact (by simp); exact ih _
theorem glue_split (c : UInt8) : ∀ (l cur : List UInt8), glue c (splitP c cur l) = cur ++ l := by
  intro l
  induction l with
  | nil => intro cur; simp [splitP, glue]
  | cons a r ih =>
    intro cur
    unfold splitP
    split
    · rename_i h
      subst h
      match hs : splitP a [] r, splitP_ne a r [] with
      | p :: q, _ =>
        have := ih []
        rw [hs] at this
        simp only [glue]
        rw [this]
        rfl
    · rw [ih]; simp
theorem splitP_plain (c : UInt8) : ∀ (p cur : List UInt8), (∀ x ∈ p, x ≠ c) → splitP c cur p = [cur ++ p] := by
  intro p
  induction p with
  | nil => intro cur _; simp [splitP]
  | cons a r ih =>
    intro cur h
    unfold splitP
    rw [if_neg (h a (by simp)), ih _ (fun x hx => h x (by simp [hx]))]
    simp
theorem splitP_sep (c : UInt8) : ∀ (p cur r : List UInt8), (∀ x ∈ p, x ≠ c) → splitP c cur (p ++ c :: r) = (cur ++ p) :: splitP c [] r := by
  intro p
  induction p with
  | nil => intro cur r _; simp [splitP]
  | cons a q ih =>
    intro cur r h
    rw [List.cons_append, splitP, if_neg (h a (by simp)), ih _ r (fun x hx => h x (by simp [hx]))]
    simp
theorem split_glue (c : UInt8) : ∀ (ps : List (List UInt8)), ps ≠ [] → (∀ p ∈ ps, ∀ x ∈ p, x ≠ c) → splitP c [] (glue c ps) = ps := by
  intro ps
  induction ps with
  | nil => intro h; exact absurd rfl h
  | cons p q ih =>
    intro _ h
    match q, ih with
    | [], _ => simp only [glue]; rw [splitP_plain c p [] (h p (by simp))]; simp
    | a :: b, ih =>
      simp only [glue]
      rw [splitP_sep c p [] _ (h p (by simp)), ih (by simp) (fun p hp => h p (by simp [hp]))]
      simp
theorem numeral_no (c : UInt8) (hc : isDig c = false) (n : Int) : ∀ x ∈ numeral n, x ≠ c := by
  intro x hx e
  subst e
  have := decDigits_dig n.toNat
  rw [List.all_eq_true] at this
  rw [this x hx] at hc
  cases hc
theorem split_print (a : Int) : splitP 46 [] (printP a) = partsP a := by
  refine split_glue 46 _ (by simp [partsP]) (fun p hp => ?_)
  simp only [partsP, List.mem_cons, List.mem_nil_iff, or_false] at hp
  rcases hp with rfl | rfl | rfl | rfl <;> exact numeral_no 46 (by decide) _
theorem addr_print (a : Int) (h0 : 0 ≤ a) (h1 : a < 4294967296) : addrP (printP a) = (a, 0) := by
  unfold addrP
  rw [split_print]
  rw [if_pos (by rfl)]
  simp only [partsP, addrL]
  have hn : ∀ x : Int, 0 ≤ x → numP (numeral (x % 256)) = some (x % 256) := fun x _ => numP_numeral _ (by omega) (by omega)
  rw [hn _ (by omega), hn _ (by omega), hn _ (by omega), hn _ h0]
  simp only
  rw [if_neg (by omega), if_neg (by omega), if_neg (by omega), if_neg (by omega)]
  simp only [Prod.mk.injEq, and_true]
  omega
theorem addrL_ok : ∀ (ps : List (List UInt8)) (a x : Int), 0 ≤ a → addrL ps a = (x, 0) → ∃ ns : List Int, ps = ns.map numeral ∧ (∀ n ∈ ns, 0 ≤ n ∧ n ≤ 255) ∧ x = ns.foldl (fun a n => a * 256 + n) a := by
  intro ps
  induction ps with
  | nil => intro a x _ h; simp only [addrL, Prod.mk.injEq, and_true] at h; exact ⟨[], rfl, by simp, h.symm⟩
  | cons p r ih =>
    intro a x ha h
    simp only [addrL] at h
    cases hp : numP p with
    | none => rw [hp] at h; simp at h
    | some n =>
      rw [hp] at h
      simp only at h
      obtain ⟨n0, _, hn, _, _, _⟩ := numP_some hp
      split at h
      · simp at h
      · obtain ⟨ns, e, hb, hx⟩ := ih _ x (by omega) h
        refine ⟨n :: ns, by rw [List.map_cons, hn, e], ?_, by simpa using hx⟩
        intro m hm
        simp only [List.mem_cons] at hm
        rcases hm with rfl | hm
        · omega
        · exact hb m hm
theorem addr_back {l : List UInt8} {x : Int} (h : addrP l = (x, 0)) : printP x = l ∧ 0 ≤ x ∧ x < 4294967296 := by
  unfold addrP at h
  split at h
  · rename_i h4
    obtain ⟨ns, e, hb, hx⟩ := addrL_ok _ 0 x (by decide) h
    have hg := glue_split 46 l []
    rw [e] at hg h4
    simp only [List.length_map] at h4
    match ns, h4 with
    | [a, b, c, d], _ =>
      have ha := hb a (by simp)
      have hb' := hb b (by simp)
      have hc := hb c (by simp)
      have hd := hb d (by simp)
      simp only [List.foldl_cons, List.foldl_nil] at hx
      refine ⟨?_, by omega, by omega⟩
      rw [List.nil_append] at hg
      rw [← hg]
      unfold printP partsP
      rw [show x / 16777216 % 256 = a by omega, show x / 65536 % 256 = b by omega, show x / 256 % 256 = c by omega, show x % 256 = d by omega]
      rfl
  · simp at h
theorem addrL_err : ∀ (ps : List (List UInt8)) (a : Int), 0 ≤ a → addrL ps a = (0, 52) ∨ ∃ x, 0 ≤ x ∧ addrL ps a = (x, 0) := by
  intro ps
  induction ps with
  | nil => intro a ha; exact .inr ⟨a, ha, rfl⟩
  | cons p r ih =>
    intro a ha
    simp only [addrL]
    cases hp : numP p with
    | none => exact .inl rfl
    | some n =>
      have := (numP_some hp).1
      simp only
      split
      · exact .inl rfl
      · exact ih _ (by omega)
theorem addrP_cases (l : List UInt8) : addrP l = (0, 52) ∨ ∃ x, 0 ≤ x ∧ x < 4294967296 ∧ addrP l = (x, 0) := by
  have h : addrP l = (0, 52) ∨ ∃ x, 0 ≤ x ∧ addrP l = (x, 0) := by
    unfold addrP
    split
    · exact addrL_err _ 0 (by decide)
    · exact .inl rfl
  rcases h with h | ⟨x, _, h⟩
  · exact .inl h
  · obtain ⟨_, h1, h2⟩ := addr_back h
    exact .inr ⟨x, h1, h2, h⟩
end Go.Proofs.YtdndmbcejoodpaaGreatDoor
