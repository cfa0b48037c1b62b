/- The reference's data walked. -/
import Derived.Test.YtdndmbcejoodpaaGreatDoorWDec
import Derived.Test.YtdndmbcejoodpaaGreatDoorCDig
namespace Go.Proofs.YtdndmbcejoodpaaGreatDoor
open Go.RowKit Go.Proofs.YtdndmbcejoodpaaGreatDoorW.PrintWords Go.Proofs.YtdndmbcejoodpaaGreatDoorW.PrintLast Go.Proofs.YtdndmbcejoodpaaGreatDoorW.PrintMore
set_option linter.unusedVariables false
set_option linter.unusedSimpArgs false
theorem udigit_0 (W : World) : (Instr.slice 9 (.string ⟨#[48, 49, 50, 51, 52, 53, 54, 55, 56, 57]⟩) (some (.int .u64 0)) (some (.int .u64 (0 + 1))) none).run Tryz.prog W = .ok (.string ⟨#[48]⟩) W := by kernel_rfl
theorem udigit_1 (W : World) : (Instr.slice 9 (.string ⟨#[48, 49, 50, 51, 52, 53, 54, 55, 56, 57]⟩) (some (.int .u64 1)) (some (.int .u64 (1 + 1))) none).run Tryz.prog W = .ok (.string ⟨#[49]⟩) W := by kernel_rfl
theorem udigit_2 (W : World) : (Instr.slice 9 (.string ⟨#[48, 49, 50, 51, 52, 53, 54, 55, 56, 57]⟩) (some (.int .u64 2)) (some (.int .u64 (2 + 1))) none).run Tryz.prog W = .ok (.string ⟨#[50]⟩) W := by kernel_rfl
theorem udigit_3 (W : World) : (Instr.slice 9 (.string ⟨#[48, 49, 50, 51, 52, 53, 54, 55, 56, 57]⟩) (some (.int .u64 3)) (some (.int .u64 (3 + 1))) none).run Tryz.prog W = .ok (.string ⟨#[51]⟩) W := by kernel_rfl
theorem udigit_4 (W : World) : (Instr.slice 9 (.string ⟨#[48, 49, 50, 51, 52, 53, 54, 55, 56, 57]⟩) (some (.int .u64 4)) (some (.int .u64 (4 + 1))) none).run Tryz.prog W = .ok (.string ⟨#[52]⟩) W := by kernel_rfl
theorem udigit_5 (W : World) : (Instr.slice 9 (.string ⟨#[48, 49, 50, 51, 52, 53, 54, 55, 56, 57]⟩) (some (.int .u64 5)) (some (.int .u64 (5 + 1))) none).run Tryz.prog W = .ok (.string ⟨#[53]⟩) W := by kernel_rfl
theorem udigit_6 (W : World) : (Instr.slice 9 (.string ⟨#[48, 49, 50, 51, 52, 53, 54, 55, 56, 57]⟩) (some (.int .u64 6)) (some (.int .u64 (6 + 1))) none).run Tryz.prog W = .ok (.string ⟨#[54]⟩) W := by kernel_rfl
theorem udigit_7 (W : World) : (Instr.slice 9 (.string ⟨#[48, 49, 50, 51, 52, 53, 54, 55, 56, 57]⟩) (some (.int .u64 7)) (some (.int .u64 (7 + 1))) none).run Tryz.prog W = .ok (.string ⟨#[55]⟩) W := by kernel_rfl
theorem udigit_8 (W : World) : (Instr.slice 9 (.string ⟨#[48, 49, 50, 51, 52, 53, 54, 55, 56, 57]⟩) (some (.int .u64 8)) (some (.int .u64 (8 + 1))) none).run Tryz.prog W = .ok (.string ⟨#[56]⟩) W := by kernel_rfl
theorem udigit_9 (W : World) : (Instr.slice 9 (.string ⟨#[48, 49, 50, 51, 52, 53, 54, 55, 56, 57]⟩) (some (.int .u64 9)) (some (.int .u64 (9 + 1))) none).run Tryz.prog W = .ok (.string ⟨#[57]⟩) W := by kernel_rfl
theorem ucut_digit (d : Int) (h0 : 0 ≤ d) (h1 : d < 10) (W : World) : (Instr.slice 9 (.string ⟨#[48, 49, 50, 51, 52, 53, 54, 55, 56, 57]⟩) (some (.int .u64 d)) (some (.int .u64 (d + 1))) none).run Tryz.prog W = .ok (.string ⟨(numeral d).toArray⟩) W := by
  have e : ∀ i : Nat, i < 10 → numeral (i : Int) = [UInt8.ofNat (48 + i)] := fun i hi => Lib.decDigits_one hi
  have hd : d = 0 ∨ d = 1 ∨ d = 2 ∨ d = 3 ∨ d = 4 ∨ d = 5 ∨ d = 6 ∨ d = 7 ∨ d = 8 ∨ d = 9 := by omega
  rcases hd with rfl | rfl | rfl | rfl | rfl | rfl | rfl | rfl | rfl | rfl
  · rw [show numeral 0 = [48] from e 0 (by decide)]; exact udigit_0 W
  · rw [show numeral 1 = [49] from e 1 (by decide)]; exact udigit_1 W
  · rw [show numeral 2 = [50] from e 2 (by decide)]; exact udigit_2 W
  · rw [show numeral 3 = [51] from e 3 (by decide)]; exact udigit_3 W
  · rw [show numeral 4 = [52] from e 4 (by decide)]; exact udigit_4 W
  · rw [show numeral 5 = [53] from e 5 (by decide)]; exact udigit_5 W
  · rw [show numeral 6 = [54] from e 6 (by decide)]; exact udigit_6 W
  · rw [show numeral 7 = [55] from e 7 (by decide)]; exact udigit_7 W
  · rw [show numeral 8 = [56] from e 8 (by decide)]; exact udigit_8 W
  · rw [show numeral 9 = [57] from e 9 (by decide)]; exact udigit_9 W
set_option maxRecDepth 100000 in
set_option maxHeartbeats 2000000 in
theorem natural_calls : ∀ (m : Nat) (n : Int), 0 ≤ n → n < 18446744073709551616 → n.toNat ≤ m → ∀ w : World,
    Calls Tryz.prog 77 #[.int .u64 n] w fun e w' => e = .returned (.string ⟨(numeral n).toArray⟩) ∧ ∃ q, w' = w.drewN q := by
  intro m
  induction m using Nat.strongRecOn with
  | _ m ih =>
    intro n h0 h1 hm w
    by_cases h10 : n < 10
    · have hc := ucut_digit n h0 h10
      obtain ⟨X, hX⟩ : ∃ X, X = (⟨(numeral n).toArray⟩ : ByteArray) := ⟨_, rfl⟩
      rw [← hX] at hc ⊢
      clear hX
      go_enter Tryz.func77, Tryz.ntmps77
      go_wp2_with fail
      go_ret
      exact ⟨rfl, 0, rfl⟩
    · have hn : numeral n = numeral (n / 10) ++ numeral (n % 10) := by
        unfold numeral
        rw [Lib.decDigits, dif_neg (by omega), Lib.decDigits_one (i := (n % 10).toNat) (by omega)]
        congr 2
        · omega
        · congr 2; omega
      have hc := ucut_digit (n % 10) (by omega) (by omega)
      have hr := fun W => ih ((n / 10).toNat) (by omega) (n / 10) (by omega) (by omega) (Nat.le_refl _) W
      obtain ⟨X, hX⟩ : ∃ X, X = (⟨(numeral n).toArray⟩ : ByteArray) := ⟨_, rfl⟩
      obtain ⟨Y, hY⟩ : ∃ X, X = (⟨(numeral (n / 10)).toArray⟩ : ByteArray) := ⟨_, rfl⟩
      obtain ⟨Z, hZ⟩ : ∃ X, X = (⟨(numeral (n % 10)).toArray⟩ : ByteArray) := ⟨_, rfl⟩
      have hl : Y.size ≤ 20 := by
        rw [hY]
        have := nDigits_le (n / 10).toNat 20 (by decide) (by omega)
        simp only [ByteArray.size, List.size_toArray, numeral]
        rw [Lib.decDigits_length]
        exact this
      have hl2 : Z.size = 1 := by
        rw [hZ]
        simp only [ByteArray.size, List.size_toArray, numeral]
        rw [Lib.decDigits_one (by omega)]
        rfl
      have hXYZ : X = Y ++ Z := by
        rw [hX, hY, hZ, hn]
        apply ByteArray.ext
        rw [ByteArray.data_append]
        simp
      rw [← hX]
      rw [← hY] at hr
      rw [← hZ] at hc
      clear hX hY hZ ih hn
      subst hXYZ
      go_enter Tryz.func77, Tryz.ntmps77
      go_wp2_with fail
      refine wp_region_quiet_lit (by kernel_rfl) (by kernel_rfl) ?_
      repeat (go_big_quiet_step (exact Calls.quiet_of (hr _)))
      refine wpQuiet_nil ?_
      intro w5 hw5
      obtain ⟨nd, rfl⟩ := hw5
      go_wp2_with fail
      go_ret
      exact ⟨rfl, nd, rfl⟩

set_option maxRecDepth 100000 in
set_option maxHeartbeats 2000000 in
theorem number19_calls (n : Int) (h0 : -9223372036854775808 ≤ n) (h1 : n ≤ 9223372036854775807) (w : World) :
    Calls Tryz.prog 31 #[.int .i64 n] w fun e w' => e = .returned (.string (ba (Lib.itoa n))) ∧ ∃ q, w' = w.drewN q := by
  by_cases hn : n < 0
  · have hc := natural_calls (-n).toNat (-n) (by omega) (by omega) (Nat.le_refl _)
    have hi : ba (Lib.itoa n) = ⟨#[45]⟩ ++ (⟨(numeral (-n)).toArray⟩ : ByteArray) := by
      apply ByteArray.ext
      rw [ByteArray.data_append]
      unfold Lib.itoa numeral ba
      simp [hn]
      congr 1
      omega
    rw [hi]
    have hl2 : (⟨(numeral (-n)).toArray⟩ : ByteArray).size ≤ 20 := by
      have := nDigits_le (-n).toNat 20 (by decide) (by omega)
      simp only [ByteArray.size, List.size_toArray, numeral]
      rw [Lib.decDigits_length]
      exact this
    obtain ⟨Z, hZ⟩ : ∃ X, X = (⟨(numeral (-n)).toArray⟩ : ByteArray) := ⟨_, rfl⟩
    rw [← hZ] at hc hl2 ⊢
    clear hZ hi
    have e1 : -n = -(n + 1) + 1 := by omega
    rw [e1] at hc
    clear e1
    have hw1 : wrap64 (n + 1) = n + 1 := by unfold wrap64; omega
    have hw2 : wrap64 (-(n + 1)) = -(n + 1) := by unfold wrap64; omega
    have hw3 : -(n + 1) % 18446744073709551616 = -(n + 1) := by omega
    have hw4 : (-(n + 1) + 1) % 18446744073709551616 = -n := by omega
    go_enter Tryz.func31, Tryz.ntmps31
    go_wp2_with (first | (with_reducible refine (hc _).mono ?_); rintro e w1 ⟨rfl, nd, rfl⟩)
    go_ret
    exact ⟨rfl, nd, rfl⟩
  · have hc := natural_calls n.toNat n (by omega) (by omega) (Nat.le_refl _)
    have hi : ba (Lib.itoa n) = (⟨(numeral n).toArray⟩ : ByteArray) := by
      unfold Lib.itoa numeral ba
      rw [if_neg hn]
    rw [hi]
    obtain ⟨Z, hZ⟩ : ∃ X, X = (⟨(numeral n).toArray⟩ : ByteArray) := ⟨_, rfl⟩
    rw [← hZ] at hc ⊢
    clear hZ hi
    have hw3 : n % 18446744073709551616 = n := by omega
    go_enter Tryz.func31, Tryz.ntmps31
    go_wp2_with (first | (with_reducible refine (hc _).mono ?_); rintro e w1 ⟨rfl, nd, rfl⟩)
    go_ret
    exact ⟨rfl, nd, rfl⟩
end Go.Proofs.YtdndmbcejoodpaaGreatDoor
namespace Go.Proofs.YtdndmbcejoodpaaGreatDoor
open Go.RowKit Go.Proofs.YtdndmbcejoodpaaGreatDoorW.PrintWords Go.Proofs.YtdndmbcejoodpaaGreatDoorW.PrintLast Go.Proofs.YtdndmbcejoodpaaGreatDoorW.PrintMore
set_option linter.unusedVariables false
set_option linter.unusedSimpArgs false
theorem hexcut_0 (W : World) : (Instr.slice 9 (.string ⟨#[48, 49, 50, 51, 52, 53, 54, 55, 56, 57, 97, 98, 99, 100, 101, 102]⟩) (some (.int .u8 0)) (some (.int .u8 (0 + 1))) none).run Tryz.prog W = .ok (.string ⟨#[48]⟩) W := by kernel_rfl
theorem hexcut_1 (W : World) : (Instr.slice 9 (.string ⟨#[48, 49, 50, 51, 52, 53, 54, 55, 56, 57, 97, 98, 99, 100, 101, 102]⟩) (some (.int .u8 1)) (some (.int .u8 (1 + 1))) none).run Tryz.prog W = .ok (.string ⟨#[49]⟩) W := by kernel_rfl
theorem hexcut_2 (W : World) : (Instr.slice 9 (.string ⟨#[48, 49, 50, 51, 52, 53, 54, 55, 56, 57, 97, 98, 99, 100, 101, 102]⟩) (some (.int .u8 2)) (some (.int .u8 (2 + 1))) none).run Tryz.prog W = .ok (.string ⟨#[50]⟩) W := by kernel_rfl
theorem hexcut_3 (W : World) : (Instr.slice 9 (.string ⟨#[48, 49, 50, 51, 52, 53, 54, 55, 56, 57, 97, 98, 99, 100, 101, 102]⟩) (some (.int .u8 3)) (some (.int .u8 (3 + 1))) none).run Tryz.prog W = .ok (.string ⟨#[51]⟩) W := by kernel_rfl
theorem hexcut_4 (W : World) : (Instr.slice 9 (.string ⟨#[48, 49, 50, 51, 52, 53, 54, 55, 56, 57, 97, 98, 99, 100, 101, 102]⟩) (some (.int .u8 4)) (some (.int .u8 (4 + 1))) none).run Tryz.prog W = .ok (.string ⟨#[52]⟩) W := by kernel_rfl
theorem hexcut_5 (W : World) : (Instr.slice 9 (.string ⟨#[48, 49, 50, 51, 52, 53, 54, 55, 56, 57, 97, 98, 99, 100, 101, 102]⟩) (some (.int .u8 5)) (some (.int .u8 (5 + 1))) none).run Tryz.prog W = .ok (.string ⟨#[53]⟩) W := by kernel_rfl
theorem hexcut_6 (W : World) : (Instr.slice 9 (.string ⟨#[48, 49, 50, 51, 52, 53, 54, 55, 56, 57, 97, 98, 99, 100, 101, 102]⟩) (some (.int .u8 6)) (some (.int .u8 (6 + 1))) none).run Tryz.prog W = .ok (.string ⟨#[54]⟩) W := by kernel_rfl
theorem hexcut_7 (W : World) : (Instr.slice 9 (.string ⟨#[48, 49, 50, 51, 52, 53, 54, 55, 56, 57, 97, 98, 99, 100, 101, 102]⟩) (some (.int .u8 7)) (some (.int .u8 (7 + 1))) none).run Tryz.prog W = .ok (.string ⟨#[55]⟩) W := by kernel_rfl
theorem hexcut_8 (W : World) : (Instr.slice 9 (.string ⟨#[48, 49, 50, 51, 52, 53, 54, 55, 56, 57, 97, 98, 99, 100, 101, 102]⟩) (some (.int .u8 8)) (some (.int .u8 (8 + 1))) none).run Tryz.prog W = .ok (.string ⟨#[56]⟩) W := by kernel_rfl
theorem hexcut_9 (W : World) : (Instr.slice 9 (.string ⟨#[48, 49, 50, 51, 52, 53, 54, 55, 56, 57, 97, 98, 99, 100, 101, 102]⟩) (some (.int .u8 9)) (some (.int .u8 (9 + 1))) none).run Tryz.prog W = .ok (.string ⟨#[57]⟩) W := by kernel_rfl
theorem hexcut_10 (W : World) : (Instr.slice 9 (.string ⟨#[48, 49, 50, 51, 52, 53, 54, 55, 56, 57, 97, 98, 99, 100, 101, 102]⟩) (some (.int .u8 10)) (some (.int .u8 (10 + 1))) none).run Tryz.prog W = .ok (.string ⟨#[97]⟩) W := by kernel_rfl
theorem hexcut_11 (W : World) : (Instr.slice 9 (.string ⟨#[48, 49, 50, 51, 52, 53, 54, 55, 56, 57, 97, 98, 99, 100, 101, 102]⟩) (some (.int .u8 11)) (some (.int .u8 (11 + 1))) none).run Tryz.prog W = .ok (.string ⟨#[98]⟩) W := by kernel_rfl
theorem hexcut_12 (W : World) : (Instr.slice 9 (.string ⟨#[48, 49, 50, 51, 52, 53, 54, 55, 56, 57, 97, 98, 99, 100, 101, 102]⟩) (some (.int .u8 12)) (some (.int .u8 (12 + 1))) none).run Tryz.prog W = .ok (.string ⟨#[99]⟩) W := by kernel_rfl
theorem hexcut_13 (W : World) : (Instr.slice 9 (.string ⟨#[48, 49, 50, 51, 52, 53, 54, 55, 56, 57, 97, 98, 99, 100, 101, 102]⟩) (some (.int .u8 13)) (some (.int .u8 (13 + 1))) none).run Tryz.prog W = .ok (.string ⟨#[100]⟩) W := by kernel_rfl
theorem hexcut_14 (W : World) : (Instr.slice 9 (.string ⟨#[48, 49, 50, 51, 52, 53, 54, 55, 56, 57, 97, 98, 99, 100, 101, 102]⟩) (some (.int .u8 14)) (some (.int .u8 (14 + 1))) none).run Tryz.prog W = .ok (.string ⟨#[101]⟩) W := by kernel_rfl
theorem hexcut_15 (W : World) : (Instr.slice 9 (.string ⟨#[48, 49, 50, 51, 52, 53, 54, 55, 56, 57, 97, 98, 99, 100, 101, 102]⟩) (some (.int .u8 15)) (some (.int .u8 (15 + 1))) none).run Tryz.prog W = .ok (.string ⟨#[102]⟩) W := by kernel_rfl
theorem hexcut (d : Int) (h0 : 0 ≤ d) (h1 : d < 16) (W : World) : (Instr.slice 9 (.string ⟨#[48, 49, 50, 51, 52, 53, 54, 55, 56, 57, 97, 98, 99, 100, 101, 102]⟩) (some (.int .u8 d)) (some (.int .u8 (d + 1))) none).run Tryz.prog W = .ok (.string ⟨#[hexC d.toNat]⟩) W := by
  have hd : d = 0 ∨ d = 1 ∨ d = 2 ∨ d = 3 ∨ d = 4 ∨ d = 5 ∨ d = 6 ∨ d = 7 ∨ d = 8 ∨ d = 9 ∨ d = 10 ∨ d = 11 ∨ d = 12 ∨ d = 13 ∨ d = 14 ∨ d = 15 := by omega
  rcases hd with rfl | rfl | rfl | rfl | rfl | rfl | rfl | rfl | rfl | rfl | rfl | rfl | rfl | rfl | rfl | rfl
  · exact hexcut_0 W
  · exact hexcut_1 W
  · exact hexcut_2 W
  · exact hexcut_3 W
  · exact hexcut_4 W
  · exact hexcut_5 W
  · exact hexcut_6 W
  · exact hexcut_7 W
  · exact hexcut_8 W
  · exact hexcut_9 W
  · exact hexcut_10 W
  · exact hexcut_11 W
  · exact hexcut_12 W
  · exact hexcut_13 W
  · exact hexcut_14 W
  · exact hexcut_15 W
set_option maxRecDepth 100000 in
set_option maxHeartbeats 2000000 in
theorem refData_calls (A : Option Addr) (n c : Nat) (l : List Int) (w : World) (hr : Kd.C (Kd.int .u8) w A n l) (hb : ∀ b ∈ l, 0 ≤ b ∧ b < 256) (hn : n ≤ 1048576) :
    Calls Tryz.prog 33 #[.slice A n c] w fun e w' => e = .returned (.string (ba (dataP l))) ∧ ∃ q, w' = w.drewN q := by
  have hl : l.length = n := hr.1
  by_cases h0 : n = 0
  · have hX : dataP l = [45] := by unfold dataP; rw [if_pos (List.eq_nil_of_length_eq_zero (by omega))]
    rw [hX]
    clear hX hr hb hl hn
    subst h0
    go_enter Tryz.func33, Tryz.ntmps33
    go_wp2_with fail
    go_ret
    exact ⟨rfl, 0, rfl⟩
  · have hX : dataP l = hexL l := by unfold dataP; rw [if_neg (by intro h; rw [h] at hl; simp at hl; omega)]
    rw [hX]
    obtain ⟨X, hXX⟩ : ∃ X, X = (ba (hexL l)) := ⟨_, rfl⟩
    rw [← hXX]
    have HX := Aside0.mk hXX
    clear hXX hX
    have h0' : ((n : Int) == 0) = false := beq_eq_false_iff_ne.2 (by omega)
    have HR := Aside0.mk hr
    have HBY := Aside0.mk (And.intro hb hl)
    clear hr hb hl
    go_enter Tryz.func33, Tryz.ntmps33
    go_wp2_with fail
    go_loopw [3, 4] (fun v3 v4 wr => ∃ k : Nat, k ≤ n ∧ v4 = .int .i64 k ∧ v3 = .string (ba (hexL (l.take k))) ∧ ∃ q, wr = w.drewN q) (fun _ v4 _ => n - (RowKit.intOf v4).toNat)
    case atStart => exact ⟨0, Nat.zero_le _, rfl, rfl, 0, rfl⟩
    case round =>
      obtain ⟨k, hk, rfl, rfl, q, rfl⟩ := hrel
      by_cases hlt : k < n
      · have hkl : k < l.length := by rw [HBY.out.2]; exact hlt
        obtain ⟨x, hx⟩ : ∃ x, x = l[k] := ⟨_, rfl⟩
        have hxb := HBY.out.1 l[k] (List.getElem_mem hkl)
        rw [← hx] at hxb
        obtain ⟨ad, hA, hcells⟩ := cells_of_C HR.out (by omega)
        subst hA
        have hc := hcells k (.int .u8 x) (by rw [hx]; simp [nums, hkl])
        have htk : l.take (k + 1) = l.take k ++ [x] := by rw [List.take_add_one, List.getElem?_eq_getElem hkl, hx]; rfl
        have HT := Aside0.mk (show ba (hexL (l.take (k + 1))) = ba (hexL (l.take k)) ++ ⟨#[hexC (x / 16).toNat]⟩ ++ ⟨#[hexC (x % 16).toNat]⟩ by
          rw [htk, hexL_snoc]
          apply ByteArray.ext
          simp [ba, ByteArray.data_append])
        have h1 := hxb.1
        have h2 := hxb.2
        have i1 := hexcut (x / 16) (by omega) (by omega)
        have i2 := hexcut (x % 16) (by omega) (by omega)
        have hltz : (k : Int) < (n : Int) := by omega
        have w1 : (x / 16 + 1) % 256 = x / 16 + 1 := by omega
        have w2 : (x % 16 + 1) % 256 = x % 16 + 1 := by omega
        have hYs : (ba (hexL (l.take k))).size + 2 ≤ 4194304 := (by simp only [ba, ByteArray.size, List.size_toArray]; rw [hexL_len, List.length_take]; omega)
        have hy1 : (⟨#[hexC (x / 16).toNat]⟩ : ByteArray).size = 1 := rfl
        have hy2 : (⟨#[hexC (x % 16).toNat]⟩ : ByteArray).size = 1 := rfl
        clear htk hcells hxb hx
        generalize (⟨#[hexC (x / 16).toNat]⟩ : ByteArray) = y1 at i1 HT hy1
        generalize (⟨#[hexC (x % 16).toNat]⟩ : ByteArray) = y2 at i2 HT hy2
        generalize ba (hexL (l.take k)) = Y at HT hYs
        go_wp2_with fail
        refine wp_region_quiet_lit (by kernel_rfl) (by kernel_rfl) ?_
        repeat (go_big_quiet_step (fail))
        refine wpQuiet_nil ?_
        intro w5 hw5
        obtain ⟨nd, rfl⟩ := hw5
        go_wp2_with fail
        go_roundw
        case measure => simp [RowKit.intOf]; omega
        case rel => exact ⟨k + 1, hlt, by go_num, by rw [HT.out], q + nd, by simp⟩
      · obtain rfl : k = n := by omega
        have HX2 : X = ba (hexL (l.take k)) := by rw [HX.out, ← HBY.out.2, List.take_length]
        replace HX2 := Aside0.mk HX2
        clear HX
        go_wp2_with fail
        go_ret
        rw [HX2.out]
        exact ⟨rfl, q, rfl⟩
end Go.Proofs.YtdndmbcejoodpaaGreatDoor
