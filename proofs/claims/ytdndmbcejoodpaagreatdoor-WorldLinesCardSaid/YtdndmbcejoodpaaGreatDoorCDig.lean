/- The reference's digits and PrintAddr walked. -/
import Derived.Test.YtdndmbcejoodpaaGreatDoorCRef
namespace Go.Proofs.YtdndmbcejoodpaaGreatDoor
open Go.RowKit Go.Proofs.YtdndmbcejoodpaaGreatDoorW.PrintWords Go.Proofs.YtdndmbcejoodpaaGreatDoorW.PrintLast Go.Proofs.YtdndmbcejoodpaaGreatDoorW.PrintMore
set_option linter.unusedVariables false
set_option linter.unusedSimpArgs false
theorem digit_0 (W : World) : (Instr.slice 9 (.string ⟨#[48, 49, 50, 51, 52, 53, 54, 55, 56, 57]⟩) (some (.int .i64 0)) (some (.int .i64 (0 + 1))) none).run Tryz.prog W = .ok (.string ⟨#[48]⟩) W := by kernel_rfl
theorem digit_1 (W : World) : (Instr.slice 9 (.string ⟨#[48, 49, 50, 51, 52, 53, 54, 55, 56, 57]⟩) (some (.int .i64 1)) (some (.int .i64 (1 + 1))) none).run Tryz.prog W = .ok (.string ⟨#[49]⟩) W := by kernel_rfl
theorem digit_2 (W : World) : (Instr.slice 9 (.string ⟨#[48, 49, 50, 51, 52, 53, 54, 55, 56, 57]⟩) (some (.int .i64 2)) (some (.int .i64 (2 + 1))) none).run Tryz.prog W = .ok (.string ⟨#[50]⟩) W := by kernel_rfl
theorem digit_3 (W : World) : (Instr.slice 9 (.string ⟨#[48, 49, 50, 51, 52, 53, 54, 55, 56, 57]⟩) (some (.int .i64 3)) (some (.int .i64 (3 + 1))) none).run Tryz.prog W = .ok (.string ⟨#[51]⟩) W := by kernel_rfl
theorem digit_4 (W : World) : (Instr.slice 9 (.string ⟨#[48, 49, 50, 51, 52, 53, 54, 55, 56, 57]⟩) (some (.int .i64 4)) (some (.int .i64 (4 + 1))) none).run Tryz.prog W = .ok (.string ⟨#[52]⟩) W := by kernel_rfl
theorem digit_5 (W : World) : (Instr.slice 9 (.string ⟨#[48, 49, 50, 51, 52, 53, 54, 55, 56, 57]⟩) (some (.int .i64 5)) (some (.int .i64 (5 + 1))) none).run Tryz.prog W = .ok (.string ⟨#[53]⟩) W := by kernel_rfl
theorem digit_6 (W : World) : (Instr.slice 9 (.string ⟨#[48, 49, 50, 51, 52, 53, 54, 55, 56, 57]⟩) (some (.int .i64 6)) (some (.int .i64 (6 + 1))) none).run Tryz.prog W = .ok (.string ⟨#[54]⟩) W := by kernel_rfl
theorem digit_7 (W : World) : (Instr.slice 9 (.string ⟨#[48, 49, 50, 51, 52, 53, 54, 55, 56, 57]⟩) (some (.int .i64 7)) (some (.int .i64 (7 + 1))) none).run Tryz.prog W = .ok (.string ⟨#[55]⟩) W := by kernel_rfl
theorem digit_8 (W : World) : (Instr.slice 9 (.string ⟨#[48, 49, 50, 51, 52, 53, 54, 55, 56, 57]⟩) (some (.int .i64 8)) (some (.int .i64 (8 + 1))) none).run Tryz.prog W = .ok (.string ⟨#[56]⟩) W := by kernel_rfl
theorem digit_9 (W : World) : (Instr.slice 9 (.string ⟨#[48, 49, 50, 51, 52, 53, 54, 55, 56, 57]⟩) (some (.int .i64 9)) (some (.int .i64 (9 + 1))) none).run Tryz.prog W = .ok (.string ⟨#[57]⟩) W := by kernel_rfl
theorem cut_digit (d : Int) (h0 : 0 ≤ d) (h1 : d < 10) (W : World) : (Instr.slice 9 (.string ⟨#[48, 49, 50, 51, 52, 53, 54, 55, 56, 57]⟩) (some (.int .i64 d)) (some (.int .i64 (d + 1))) none).run Tryz.prog W = .ok (.string ⟨(numeral d).toArray⟩) W := by
  have e : ∀ i : Nat, i < 10 → numeral (i : Int) = [UInt8.ofNat (48 + i)] := fun i hi => Lib.decDigits_one hi
  have hd : d = 0 ∨ d = 1 ∨ d = 2 ∨ d = 3 ∨ d = 4 ∨ d = 5 ∨ d = 6 ∨ d = 7 ∨ d = 8 ∨ d = 9 := by omega
  rcases hd with rfl | rfl | rfl | rfl | rfl | rfl | rfl | rfl | rfl | rfl
  · rw [show numeral 0 = [48] from e 0 (by decide)]; exact digit_0 W
  · rw [show numeral 1 = [49] from e 1 (by decide)]; exact digit_1 W
  · rw [show numeral 2 = [50] from e 2 (by decide)]; exact digit_2 W
  · rw [show numeral 3 = [51] from e 3 (by decide)]; exact digit_3 W
  · rw [show numeral 4 = [52] from e 4 (by decide)]; exact digit_4 W
  · rw [show numeral 5 = [53] from e 5 (by decide)]; exact digit_5 W
  · rw [show numeral 6 = [54] from e 6 (by decide)]; exact digit_6 W
  · rw [show numeral 7 = [55] from e 7 (by decide)]; exact digit_7 W
  · rw [show numeral 8 = [56] from e 8 (by decide)]; exact digit_8 W
  · rw [show numeral 9 = [57] from e 9 (by decide)]; exact digit_9 W
set_option maxRecDepth 100000 in
set_option maxHeartbeats 2000000 in
theorem digits_calls : ∀ (m : Nat) (n : Int), 0 ≤ n → n ≤ 9223372036854775807 → n.toNat ≤ m → ∀ w : World,
    Calls Tryz.prog 67 #[.int .i64 n] w fun e w' => e = .returned (.string ⟨(numeral n).toArray⟩) ∧ ∃ q, w' = w.drewN q := by
  intro m
  induction m using Nat.strongRecOn with
  | _ m ih =>
    intro n h0 h1 hm w
    by_cases h10 : n < 10
    · have hc := cut_digit n h0 h10
      obtain ⟨X, hX⟩ : ∃ X, X = (⟨(numeral n).toArray⟩ : ByteArray) := ⟨_, rfl⟩
      rw [← hX] at hc ⊢
      clear hX
      go_enter Tryz.func67, Tryz.ntmps67
      go_wp2_with fail
      go_ret
      exact ⟨rfl, 0, rfl⟩
    · have hn : numeral n = numeral (n / 10) ++ numeral (n % 10) := by
        unfold numeral
        rw [Lib.decDigits, dif_neg (by omega), Lib.decDigits_one (i := (n % 10).toNat) (by omega)]
        congr 2
        · omega
        · congr 2; omega
      have hc := cut_digit (n % 10) (by omega) (by omega)
      have hr := fun W => ih ((n / 10).toNat) (by omega) (n / 10) (by omega) (by omega) (Nat.le_refl _) W
      obtain ⟨X, hX⟩ : ∃ X, X = (⟨(numeral n).toArray⟩ : ByteArray) := ⟨_, rfl⟩
      obtain ⟨Y, hY⟩ : ∃ X, X = (⟨(numeral (n / 10)).toArray⟩ : ByteArray) := ⟨_, rfl⟩
      obtain ⟨Z, hZ⟩ : ∃ X, X = (⟨(numeral (n % 10)).toArray⟩ : ByteArray) := ⟨_, rfl⟩
      have hl : Y.size ≤ 20 := by
        rw [hY]
        have := nDigits_le (n / 10).toNat 20 (by decide) (by omega)
        simp only [ByteArray.size, List.size_toArray, numeral]
        rw [Lib.decDigits_length]
        exact this
      have hl2 : Z.size = 1 := by
        rw [hZ]
        simp only [ByteArray.size, List.size_toArray, numeral]
        rw [Lib.decDigits_one (by omega)]
        rfl
      have hXYZ : X = Y ++ Z := by
        rw [hX, hY, hZ, hn]
        apply ByteArray.ext
        rw [ByteArray.data_append]
        simp
      rw [← hX]
      rw [← hY] at hr
      rw [← hZ] at hc
      clear hX hY hZ ih hn
      subst hXYZ
      go_enter Tryz.func67, Tryz.ntmps67
      go_wp2_with fail
      refine wp_region_quiet_lit (by kernel_rfl) (by kernel_rfl) ?_
      repeat (go_big_quiet_step (exact Calls.quiet_of (hr _)))
      refine wpQuiet_nil ?_
      intro w5 hw5
      obtain ⟨nd, rfl⟩ := hw5
      go_wp2_with fail
      go_ret
      exact ⟨rfl, nd, rfl⟩
theorem numeral_size (n : Int) (h0 : 0 ≤ n) (h1 : n < 10000000000) : (⟨(numeral n).toArray⟩ : ByteArray).size ≤ 10 := by
  have := numeral_len n h0 h1
  simpa [ByteArray.size] using this
set_option maxRecDepth 100000 in
set_option maxHeartbeats 2000000 in
theorem refPrint_calls (a : Int) (h0 : 0 ≤ a) (h1 : a < 4294967296) (w : World) :
    Calls Tryz.prog 32 #[.int .u32 a] w fun e w' => e = .returned (.string ⟨(printP a).toArray⟩) ∧ ∃ q, w' = w.drewN q := by
  have hd := fun n h0 h1 W => digits_calls n.toNat n h0 h1 (Nat.le_refl _) W
  have d0 := fun W => hd (a / 16777216) (by omega) (by omega) W
  have d1 := fun W => hd (a / 65536 % 256) (by omega) (by omega) W
  have d2 := fun W => hd (a / 256 % 256) (by omega) (by omega) W
  have d3 := fun W => hd (a % 256) (by omega) (by omega) W
  have s0 := numeral_size (a / 16777216) (by omega) (by omega)
  have s1 := numeral_size (a / 65536 % 256) (by omega) (by omega)
  have s2 := numeral_size (a / 256 % 256) (by omega) (by omega)
  have s3 := numeral_size (a % 256) (by omega) (by omega)
  obtain ⟨X, hX⟩ : ∃ X, X = (⟨(printP a).toArray⟩ : ByteArray) := ⟨_, rfl⟩
  rw [← hX]
  have hXY : X = (⟨(numeral (a / 16777216)).toArray⟩ : ByteArray) ++ ⟨#[46]⟩ ++ ⟨(numeral (a / 65536 % 256)).toArray⟩ ++ ⟨#[46]⟩ ++ ⟨(numeral (a / 256 % 256)).toArray⟩ ++ ⟨#[46]⟩ ++ ⟨(numeral (a % 256)).toArray⟩ := by
    rw [hX]
    unfold printP partsP
    rw [show a / 16777216 % 256 = a / 16777216 by omega]
    apply ByteArray.ext
    simp [ByteArray.data_append, glue]
  clear hX hd
  generalize (⟨(numeral (a / 16777216)).toArray⟩ : ByteArray) = A at *
  generalize (⟨(numeral (a / 65536 % 256)).toArray⟩ : ByteArray) = B at *
  generalize (⟨(numeral (a / 256 % 256)).toArray⟩ : ByteArray) = C at *
  generalize (⟨(numeral (a % 256)).toArray⟩ : ByteArray) = D at *
  subst hXY
  go_enter Tryz.func32, Tryz.ntmps32
  go_wp2_with (first
    | ((with_reducible refine (d0 _).mono ?_); rintro e w1 ⟨rfl, q1, rfl⟩)
    | ((with_reducible refine (d1 _).mono ?_); rintro e w1 ⟨rfl, q2, rfl⟩)
    | ((with_reducible refine (d2 _).mono ?_); rintro e w1 ⟨rfl, q3, rfl⟩)
    | ((with_reducible refine (d3 _).mono ?_); rintro e w1 ⟨rfl, q4, rfl⟩))
  go_ret
  exact ⟨rfl, _, rfl⟩
end Go.Proofs.YtdndmbcejoodpaaGreatDoor
