/- The walk of the reference's EncodeEvent. -/
import Derived.Test.YtdndmbcejoodpaaGreatDoorWFormed
import Derived.Test.YtdndmbcejoodpaaGreatDoorPFormx1
import Derived.Test.YtdndmbcejoodpaaGreatDoorWRData
namespace Go.Proofs.YtdndmbcejoodpaaGreatDoor
open Go.RowKit Go.Proofs.YtdndmbcejoodpaaGreatDoorW.PrintWords Go.Proofs.YtdndmbcejoodpaaGreatDoorW.PrintLast Go.Proofs.YtdndmbcejoodpaaGreatDoorW.PrintMore
set_option linter.unusedVariables false
set_option linter.unusedSimpArgs false
theorem within_is (x a b : Int) : PForm.foliotref20_within.f x a b = some (fitsP x a b) := by
  unfold PForm.foliotref20_within.f fitsP
  by_cases h : a ≤ x <;> simp [h]
theorem formed_is (kind wait frm dst unit : Int) (l : List Int) (n : Int) (hn : -9223372036854775808 ≤ n ∧ n ≤ 9223372036854775807) : PForm.foliotref20_Form.f 5 kind wait frm dst unit l n = some (formP kind wait unit n l.length) := by
  have hall : fitsP n (-9223372036854775808) 9223372036854775807 = true := by simp [fitsP, hn.1, hn.2]
  unfold PForm.foliotref20_Form.f formP
  simp only [within_is, Option.bind_some]
  cases hk : fitsP kind 1 8 with
  | false =>
    simp only [Bool.false_eq_true, if_false, false_and]
    have hj1 : ∀ k, PForm.foliotref20_Form.j1 (k + 1) false kind wait frm dst unit l n = some 1 := fun k => by simp [PForm.foliotref20_Form.j1]
    simp only [PForm.foliotref20_Form.j0, Bool.false_eq_true, if_false, hj1]
    repeat' split
    all_goals rfl
  | true =>
    have hk8 : kind = 1 ∨ kind = 2 ∨ kind = 3 ∨ kind = 4 ∨ kind = 5 ∨ kind = 6 ∨ kind = 7 ∨ kind = 8 := by
      simp only [fitsP, Bool.and_eq_true, decide_eq_true_eq] at hk
      omega
    simp only [if_true, true_and]
    generalize fitsP wait 0 1024 = b1
    rcases hk8 with rfl | rfl | rfl | rfl | rfl | rfl | rfl | rfl
    all_goals cases b1 <;> cases h3 : fitsP unit 0 3 <;> simp [PForm.foliotref20_Form.j0, PForm.foliotref20_Form.j1, within_is, rangedP, loP, hiP, hall, h3]
    all_goals first
      | (by_cases hl : 512 < l.length
         · rw [if_pos hl, if_pos (by omega)]
         · rw [if_neg hl, if_neg (by omega)])
      | (split <;> simp_all)
set_option maxRecDepth 100000 in
theorem refForm_calls (kind wait frm dst unit : Int) (A : Option Addr) (m c : Nat) (l : List Int) (n : Int) (w : World) (hc : m ≤ c) (hC : Kd.C (Kd.int .u8) w A m l) (hn : -9223372036854775808 ≤ n ∧ n ≤ 9223372036854775807) :
    Calls Tryz.prog 30 #[evV kind wait frm dst unit A m c n] w fun e w' => e = .returned (.int .i64 (formP kind wait unit n m)) ∧ Below w.heap.size w w' := by
  obtain rfl : l.length = m := hC.1
  exact PForm.foliotref20_Form.calls 5 kind wait frm dst unit A c l n _ w hC hc (formed_is kind wait frm dst unit l n hn)
end Go.Proofs.YtdndmbcejoodpaaGreatDoor
namespace Go.Proofs.YtdndmbcejoodpaaGreatDoor
open Go.RowKit Go.Proofs.YtdndmbcejoodpaaGreatDoorW.PrintWords Go.Proofs.YtdndmbcejoodpaaGreatDoorW.PrintLast Go.Proofs.YtdndmbcejoodpaaGreatDoorW.PrintMore
set_option linter.unusedVariables false
set_option linter.unusedSimpArgs false
theorem renc_text1 (wait frm dst unit : Int) (l : List Int) (n : Int) : ba (encL 1 wait frm dst unit l n) = (⟨#[116, 105, 99, 107]⟩ : ByteArray) ++ (⟨#[32]⟩ ++ ba (Lib.itoa wait)) := by
  apply ByteArray.ext
  simp [ba, ByteArray.data_append, encL, glue, tailP, wordP]
set_option maxRecDepth 100000 in
set_option maxHeartbeats 2000000 in
theorem renc1 (wait frm dst unit : Int) (A : Option Addr) (m c : Nat) (l : List Int) (n : Int) (w : World) (HE : EvOk w wait frm dst unit A m c l n) (hmc : m ≤ c) (hf : formP 1 wait unit n m = 0) :
    Calls Tryz.prog 11 #[evV 1 wait frm dst unit A m c n] w fun e w' => e = .returned (.tuple #[.string (ba (encL 1 wait frm dst unit l n)), .int .i64 0]) ∧ Below w.heap.size w w' := by
  have hform := fun W hC => refForm_calls 1 wait frm dst unit A m c l n W hmc hC HE.n0
  rw [hf] at hform
  have hn1 := number19_calls wait HE.wait0.1 HE.wait0.2
  have hn2 := number19_calls unit HE.unit0.1 HE.unit0.2
  have hn3 := number19_calls n HE.n0.1 HE.n0.2
  have hpf := refPrint_calls frm HE.frm0.1 HE.frm0.2
  have hpt := refPrint_calls dst HE.dst0.1 HE.dst0.2
  have hdt := fun W hC => refData_calls A m c l W hC HE.bytes HE.small
  have hX := renc_text1 wait frm dst unit l n
  have s1 : (ba (Lib.itoa wait)).size ≤ 21 := by simpa [ba, ByteArray.size] using itoa_len wait HE.wait0
  have s2 : (ba (Lib.itoa unit)).size ≤ 21 := by simpa [ba, ByteArray.size] using itoa_len unit HE.unit0
  have s3 : (ba (Lib.itoa n)).size ≤ 21 := by simpa [ba, ByteArray.size] using itoa_len n HE.n0
  have s4 : (ba (printP frm)).size ≤ 43 := by simpa [ba, ByteArray.size] using print_len frm
  have s5 : (ba (printP dst)).size ≤ 43 := by simpa [ba, ByteArray.size] using print_len dst
  have s6 : (ba (dataP l)).size ≤ 2097153 := by have h1 := dataP_len l; have h2 : l.length = m := HE.reads.1; have h3 := HE.small; simp [ba, ByteArray.size]; omega
  have HEA := Aside0.mk HE
  clear HE hf hmc
  unfold evV at hform ⊢
  obtain ⟨X, hXX⟩ : ∃ X, X = ba (encL 1 wait frm dst unit l n) := ⟨_, rfl⟩
  rw [← hXX] at hX ⊢
  clear hXX
  change ∀ w : World, Calls _ _ _ w fun e w' => e = .returned (.string (ba (printP frm))) ∧ _ at hpf
  change ∀ w : World, Calls _ _ _ w fun e w' => e = .returned (.string (ba (printP dst))) ∧ _ at hpt
  generalize ba (Lib.itoa wait) = Y1 at hn1 hX s1
  generalize ba (Lib.itoa unit) = Y2 at hn2 hX s2
  generalize ba (Lib.itoa n) = Y3 at hn3 hX s3
  generalize ba (printP frm) = Y4 at hpf hX s4
  generalize ba (printP dst) = Y5 at hpt hX s5
  generalize ba (dataP l) = Y6 at hdt hX s6
  subst hX
  go_enter Tryz.func11, Tryz.ntmps11
  go_wp2_with (
    first
      | (with_reducible refine (hform _ (Kd.C_alloc HEA.out.reads _)).mono ?_); rintro e w1 ⟨rfl, hb1⟩
        have hk := (hb1.block _ (blk_lt (heap_alloc_new w _))).trans (heap_alloc_new w _)
        have k0 := (blk_cell hk 0).trans rfl
        have k1 := (blk_cell hk 1).trans rfl
        have k2 := (blk_cell hk 2).trans rfl
        have k3 := (blk_cell hk 3).trans rfl
        have k4 := (blk_cell hk 4).trans rfl
        have k5 := (blk_cell hk 5).trans rfl
        have k6 := (blk_cell hk 6).trans rfl
        have HB := Aside0.mk ((below_alloc (Below.refl w.heap.size w) (.cells #[.int .i64 1, .int .i64 wait, .int .u32 frm, .int .u32 dst, .int .i64 unit, .slice A m c, .int .i64 n] 25)).trans (hb1.mono (by simp)))
        have HC1 := Aside0.mk (Kd.C_below (Kd.C_alloc HEA.out.reads (.cells #[.int .i64 1, .int .i64 wait, .int .u32 frm, .int .u32 dst, .int .i64 unit, .slice A m c, .int .i64 n] 25)) hb1)
        clear hk hb1
      | (with_reducible refine (hn1 _).mono ?_); rintro e w2 ⟨rfl, q1, rfl⟩
      | (with_reducible refine (hn2 _).mono ?_); rintro e w3 ⟨rfl, q2, rfl⟩
      | (with_reducible refine (hn3 _).mono ?_); rintro e w4 ⟨rfl, q3, rfl⟩)
  go_ret2
  refine ⟨rfl, ?_⟩
  repeat (first | exact HB.out | refine pw_below_drewN ?_ _)
theorem renc_text2 (wait frm dst unit : Int) (l : List Int) (n : Int) : ba (encL 2 wait frm dst unit l n) = (⟨#[112, 97, 99, 107, 101, 116]⟩ : ByteArray) ++ (⟨#[32]⟩ ++ ba (Lib.itoa wait)) ++ ⟨#[32]⟩ ++ ba (printP frm) ++ ⟨#[32]⟩ ++ ba (printP dst) ++ ⟨#[32]⟩ ++ ba (dataP l) := by
  apply ByteArray.ext
  simp [ba, ByteArray.data_append, encL, glue, tailP, wordP]
set_option maxRecDepth 100000 in
set_option maxHeartbeats 2000000 in
theorem renc2 (wait frm dst unit : Int) (A : Option Addr) (m c : Nat) (l : List Int) (n : Int) (w : World) (HE : EvOk w wait frm dst unit A m c l n) (hmc : m ≤ c) (hf : formP 2 wait unit n m = 0) :
    Calls Tryz.prog 11 #[evV 2 wait frm dst unit A m c n] w fun e w' => e = .returned (.tuple #[.string (ba (encL 2 wait frm dst unit l n)), .int .i64 0]) ∧ Below w.heap.size w w' := by
  have hform := fun W hC => refForm_calls 2 wait frm dst unit A m c l n W hmc hC HE.n0
  rw [hf] at hform
  have hn1 := number19_calls wait HE.wait0.1 HE.wait0.2
  have hn2 := number19_calls unit HE.unit0.1 HE.unit0.2
  have hn3 := number19_calls n HE.n0.1 HE.n0.2
  have hpf := refPrint_calls frm HE.frm0.1 HE.frm0.2
  have hpt := refPrint_calls dst HE.dst0.1 HE.dst0.2
  have hdt := fun W hC => refData_calls A m c l W hC HE.bytes HE.small
  have hX := renc_text2 wait frm dst unit l n
  have s1 : (ba (Lib.itoa wait)).size ≤ 21 := by simpa [ba, ByteArray.size] using itoa_len wait HE.wait0
  have s2 : (ba (Lib.itoa unit)).size ≤ 21 := by simpa [ba, ByteArray.size] using itoa_len unit HE.unit0
  have s3 : (ba (Lib.itoa n)).size ≤ 21 := by simpa [ba, ByteArray.size] using itoa_len n HE.n0
  have s4 : (ba (printP frm)).size ≤ 43 := by simpa [ba, ByteArray.size] using print_len frm
  have s5 : (ba (printP dst)).size ≤ 43 := by simpa [ba, ByteArray.size] using print_len dst
  have s6 : (ba (dataP l)).size ≤ 2097153 := by have h1 := dataP_len l; have h2 : l.length = m := HE.reads.1; have h3 := HE.small; simp [ba, ByteArray.size]; omega
  have HEA := Aside0.mk HE
  clear HE hf hmc
  unfold evV at hform ⊢
  obtain ⟨X, hXX⟩ : ∃ X, X = ba (encL 2 wait frm dst unit l n) := ⟨_, rfl⟩
  rw [← hXX] at hX ⊢
  clear hXX
  change ∀ w : World, Calls _ _ _ w fun e w' => e = .returned (.string (ba (printP frm))) ∧ _ at hpf
  change ∀ w : World, Calls _ _ _ w fun e w' => e = .returned (.string (ba (printP dst))) ∧ _ at hpt
  generalize ba (Lib.itoa wait) = Y1 at hn1 hX s1
  generalize ba (Lib.itoa unit) = Y2 at hn2 hX s2
  generalize ba (Lib.itoa n) = Y3 at hn3 hX s3
  generalize ba (printP frm) = Y4 at hpf hX s4
  generalize ba (printP dst) = Y5 at hpt hX s5
  generalize ba (dataP l) = Y6 at hdt hX s6
  subst hX
  go_enter Tryz.func11, Tryz.ntmps11
  go_wp2_with (
    first
      | (with_reducible refine (hform _ (Kd.C_alloc HEA.out.reads _)).mono ?_); rintro e w1 ⟨rfl, hb1⟩
        have hk := (hb1.block _ (blk_lt (heap_alloc_new w _))).trans (heap_alloc_new w _)
        have k0 := (blk_cell hk 0).trans rfl
        have k1 := (blk_cell hk 1).trans rfl
        have k2 := (blk_cell hk 2).trans rfl
        have k3 := (blk_cell hk 3).trans rfl
        have k4 := (blk_cell hk 4).trans rfl
        have k5 := (blk_cell hk 5).trans rfl
        have k6 := (blk_cell hk 6).trans rfl
        have HB := Aside0.mk ((below_alloc (Below.refl w.heap.size w) (.cells #[.int .i64 2, .int .i64 wait, .int .u32 frm, .int .u32 dst, .int .i64 unit, .slice A m c, .int .i64 n] 25)).trans (hb1.mono (by simp)))
        have HC1 := Aside0.mk (Kd.C_below (Kd.C_alloc HEA.out.reads (.cells #[.int .i64 2, .int .i64 wait, .int .u32 frm, .int .u32 dst, .int .i64 unit, .slice A m c, .int .i64 n] 25)) hb1)
        clear hk hb1
      | (with_reducible refine (hn1 _).mono ?_); rintro e w2 ⟨rfl, q1, rfl⟩
      | (with_reducible refine (hn2 _).mono ?_); rintro e w3 ⟨rfl, q2, rfl⟩
      | (with_reducible refine (hn3 _).mono ?_); rintro e w4 ⟨rfl, q3, rfl⟩)
  have c2 : (w1.drewN (q1 + q2 + q3)).cell? ⟨w.heap.size, 2, none⟩ = some (.int .u32 frm) := k2
  have c3 : (w1.drewN (q1 + q2 + q3)).cell? ⟨w.heap.size, 3, none⟩ = some (.int .u32 dst) := k3
  have c5 : (w1.drewN (q1 + q2 + q3)).cell? ⟨w.heap.size, 5, none⟩ = some (.slice A m c) := k5
  have HC2 := Aside0.mk (Kd.C_drewN HC1.out (q1 + q2 + q3))
  have HB2 := Aside0.mk (pw_below_drewN HB.out (q1 + q2 + q3))
  clear k0 k1 k2 k3 k4 k5 k6 HC1 HB
  generalize w1.drewN (q1 + q2 + q3) = W at *
  refine wp_region_quiet_lit (by kernel_rfl) (by kernel_rfl) ?_
  repeat (go_big_quiet_step (first | with_reducible exact Calls.quiet_of (hpf _) | with_reducible exact Calls.quiet_of (hpt _) | with_reducible exact Calls.quiet_of (hdt _ (Kd.C_drewN HC2.out _))))
  refine wpQuiet_nil ?_
  intro w5 hw5
  obtain ⟨nd, rfl⟩ := hw5
  go_wp2_with fail
  go_ret2
  refine ⟨rfl, ?_⟩
  repeat (first | exact HB2.out | refine pw_below_drewN ?_ _)
theorem renc_text3 (wait frm dst unit : Int) (l : List Int) (n : Int) : ba (encL 3 wait frm dst unit l n) = (⟨#[115, 101, 114, 105, 97, 108]⟩ : ByteArray) ++ (⟨#[32]⟩ ++ ba (Lib.itoa wait)) ++ (⟨#[32]⟩ ++ ba (Lib.itoa unit)) ++ ⟨#[32]⟩ ++ ba (dataP l) := by
  apply ByteArray.ext
  simp [ba, ByteArray.data_append, encL, glue, tailP, wordP]
set_option maxRecDepth 100000 in
set_option maxHeartbeats 2000000 in
theorem renc3 (wait frm dst unit : Int) (A : Option Addr) (m c : Nat) (l : List Int) (n : Int) (w : World) (HE : EvOk w wait frm dst unit A m c l n) (hmc : m ≤ c) (hf : formP 3 wait unit n m = 0) :
    Calls Tryz.prog 11 #[evV 3 wait frm dst unit A m c n] w fun e w' => e = .returned (.tuple #[.string (ba (encL 3 wait frm dst unit l n)), .int .i64 0]) ∧ Below w.heap.size w w' := by
  have hform := fun W hC => refForm_calls 3 wait frm dst unit A m c l n W hmc hC HE.n0
  rw [hf] at hform
  have hn1 := number19_calls wait HE.wait0.1 HE.wait0.2
  have hn2 := number19_calls unit HE.unit0.1 HE.unit0.2
  have hn3 := number19_calls n HE.n0.1 HE.n0.2
  have hpf := refPrint_calls frm HE.frm0.1 HE.frm0.2
  have hpt := refPrint_calls dst HE.dst0.1 HE.dst0.2
  have hdt := fun W hC => refData_calls A m c l W hC HE.bytes HE.small
  have hX := renc_text3 wait frm dst unit l n
  have s1 : (ba (Lib.itoa wait)).size ≤ 21 := by simpa [ba, ByteArray.size] using itoa_len wait HE.wait0
  have s2 : (ba (Lib.itoa unit)).size ≤ 21 := by simpa [ba, ByteArray.size] using itoa_len unit HE.unit0
  have s3 : (ba (Lib.itoa n)).size ≤ 21 := by simpa [ba, ByteArray.size] using itoa_len n HE.n0
  have s4 : (ba (printP frm)).size ≤ 43 := by simpa [ba, ByteArray.size] using print_len frm
  have s5 : (ba (printP dst)).size ≤ 43 := by simpa [ba, ByteArray.size] using print_len dst
  have s6 : (ba (dataP l)).size ≤ 2097153 := by have h1 := dataP_len l; have h2 : l.length = m := HE.reads.1; have h3 := HE.small; simp [ba, ByteArray.size]; omega
  have HEA := Aside0.mk HE
  clear HE hf hmc
  unfold evV at hform ⊢
  obtain ⟨X, hXX⟩ : ∃ X, X = ba (encL 3 wait frm dst unit l n) := ⟨_, rfl⟩
  rw [← hXX] at hX ⊢
  clear hXX
  change ∀ w : World, Calls _ _ _ w fun e w' => e = .returned (.string (ba (printP frm))) ∧ _ at hpf
  change ∀ w : World, Calls _ _ _ w fun e w' => e = .returned (.string (ba (printP dst))) ∧ _ at hpt
  generalize ba (Lib.itoa wait) = Y1 at hn1 hX s1
  generalize ba (Lib.itoa unit) = Y2 at hn2 hX s2
  generalize ba (Lib.itoa n) = Y3 at hn3 hX s3
  generalize ba (printP frm) = Y4 at hpf hX s4
  generalize ba (printP dst) = Y5 at hpt hX s5
  generalize ba (dataP l) = Y6 at hdt hX s6
  subst hX
  go_enter Tryz.func11, Tryz.ntmps11
  go_wp2_with (
    first
      | (with_reducible refine (hform _ (Kd.C_alloc HEA.out.reads _)).mono ?_); rintro e w1 ⟨rfl, hb1⟩
        have hk := (hb1.block _ (blk_lt (heap_alloc_new w _))).trans (heap_alloc_new w _)
        have k0 := (blk_cell hk 0).trans rfl
        have k1 := (blk_cell hk 1).trans rfl
        have k2 := (blk_cell hk 2).trans rfl
        have k3 := (blk_cell hk 3).trans rfl
        have k4 := (blk_cell hk 4).trans rfl
        have k5 := (blk_cell hk 5).trans rfl
        have k6 := (blk_cell hk 6).trans rfl
        have HB := Aside0.mk ((below_alloc (Below.refl w.heap.size w) (.cells #[.int .i64 3, .int .i64 wait, .int .u32 frm, .int .u32 dst, .int .i64 unit, .slice A m c, .int .i64 n] 25)).trans (hb1.mono (by simp)))
        have HC1 := Aside0.mk (Kd.C_below (Kd.C_alloc HEA.out.reads (.cells #[.int .i64 3, .int .i64 wait, .int .u32 frm, .int .u32 dst, .int .i64 unit, .slice A m c, .int .i64 n] 25)) hb1)
        clear hk hb1
      | (with_reducible refine (hn1 _).mono ?_); rintro e w2 ⟨rfl, q1, rfl⟩
      | (with_reducible refine (hn2 _).mono ?_); rintro e w3 ⟨rfl, q2, rfl⟩
      | (with_reducible refine (hn3 _).mono ?_); rintro e w4 ⟨rfl, q3, rfl⟩)
  have c2 : (w1.drewN (q1 + q2 + q3)).cell? ⟨w.heap.size, 2, none⟩ = some (.int .u32 frm) := k2
  have c3 : (w1.drewN (q1 + q2 + q3)).cell? ⟨w.heap.size, 3, none⟩ = some (.int .u32 dst) := k3
  have c5 : (w1.drewN (q1 + q2 + q3)).cell? ⟨w.heap.size, 5, none⟩ = some (.slice A m c) := k5
  have HC2 := Aside0.mk (Kd.C_drewN HC1.out (q1 + q2 + q3))
  have HB2 := Aside0.mk (pw_below_drewN HB.out (q1 + q2 + q3))
  clear k0 k1 k2 k3 k4 k5 k6 HC1 HB
  generalize w1.drewN (q1 + q2 + q3) = W at *
  refine (hdt _ HC2.out).mono ?_
  rintro e w5 ⟨rfl, q4, rfl⟩
  go_wp2_with fail
  go_ret2
  refine ⟨rfl, ?_⟩
  repeat (first | exact HB2.out | refine pw_below_drewN ?_ _)
theorem renc_text4 (wait frm dst unit : Int) (l : List Int) (n : Int) : ba (encL 4 wait frm dst unit l n) = (⟨#[112, 117, 108, 115, 101]⟩ : ByteArray) ++ (⟨#[32]⟩ ++ ba (Lib.itoa wait)) ++ (⟨#[32]⟩ ++ ba (Lib.itoa unit)) ++ (⟨#[32]⟩ ++ ba (Lib.itoa n)) := by
  apply ByteArray.ext
  simp [ba, ByteArray.data_append, encL, glue, tailP, wordP]
set_option maxRecDepth 100000 in
set_option maxHeartbeats 2000000 in
theorem renc4 (wait frm dst unit : Int) (A : Option Addr) (m c : Nat) (l : List Int) (n : Int) (w : World) (HE : EvOk w wait frm dst unit A m c l n) (hmc : m ≤ c) (hf : formP 4 wait unit n m = 0) :
    Calls Tryz.prog 11 #[evV 4 wait frm dst unit A m c n] w fun e w' => e = .returned (.tuple #[.string (ba (encL 4 wait frm dst unit l n)), .int .i64 0]) ∧ Below w.heap.size w w' := by
  have hform := fun W hC => refForm_calls 4 wait frm dst unit A m c l n W hmc hC HE.n0
  rw [hf] at hform
  have hn1 := number19_calls wait HE.wait0.1 HE.wait0.2
  have hn2 := number19_calls unit HE.unit0.1 HE.unit0.2
  have hn3 := number19_calls n HE.n0.1 HE.n0.2
  have hpf := refPrint_calls frm HE.frm0.1 HE.frm0.2
  have hpt := refPrint_calls dst HE.dst0.1 HE.dst0.2
  have hdt := fun W hC => refData_calls A m c l W hC HE.bytes HE.small
  have hX := renc_text4 wait frm dst unit l n
  have s1 : (ba (Lib.itoa wait)).size ≤ 21 := by simpa [ba, ByteArray.size] using itoa_len wait HE.wait0
  have s2 : (ba (Lib.itoa unit)).size ≤ 21 := by simpa [ba, ByteArray.size] using itoa_len unit HE.unit0
  have s3 : (ba (Lib.itoa n)).size ≤ 21 := by simpa [ba, ByteArray.size] using itoa_len n HE.n0
  have s4 : (ba (printP frm)).size ≤ 43 := by simpa [ba, ByteArray.size] using print_len frm
  have s5 : (ba (printP dst)).size ≤ 43 := by simpa [ba, ByteArray.size] using print_len dst
  have s6 : (ba (dataP l)).size ≤ 2097153 := by have h1 := dataP_len l; have h2 : l.length = m := HE.reads.1; have h3 := HE.small; simp [ba, ByteArray.size]; omega
  have HEA := Aside0.mk HE
  clear HE hf hmc
  unfold evV at hform ⊢
  obtain ⟨X, hXX⟩ : ∃ X, X = ba (encL 4 wait frm dst unit l n) := ⟨_, rfl⟩
  rw [← hXX] at hX ⊢
  clear hXX
  change ∀ w : World, Calls _ _ _ w fun e w' => e = .returned (.string (ba (printP frm))) ∧ _ at hpf
  change ∀ w : World, Calls _ _ _ w fun e w' => e = .returned (.string (ba (printP dst))) ∧ _ at hpt
  generalize ba (Lib.itoa wait) = Y1 at hn1 hX s1
  generalize ba (Lib.itoa unit) = Y2 at hn2 hX s2
  generalize ba (Lib.itoa n) = Y3 at hn3 hX s3
  generalize ba (printP frm) = Y4 at hpf hX s4
  generalize ba (printP dst) = Y5 at hpt hX s5
  generalize ba (dataP l) = Y6 at hdt hX s6
  subst hX
  go_enter Tryz.func11, Tryz.ntmps11
  go_wp2_with (
    first
      | (with_reducible refine (hform _ (Kd.C_alloc HEA.out.reads _)).mono ?_); rintro e w1 ⟨rfl, hb1⟩
        have hk := (hb1.block _ (blk_lt (heap_alloc_new w _))).trans (heap_alloc_new w _)
        have k0 := (blk_cell hk 0).trans rfl
        have k1 := (blk_cell hk 1).trans rfl
        have k2 := (blk_cell hk 2).trans rfl
        have k3 := (blk_cell hk 3).trans rfl
        have k4 := (blk_cell hk 4).trans rfl
        have k5 := (blk_cell hk 5).trans rfl
        have k6 := (blk_cell hk 6).trans rfl
        have HB := Aside0.mk ((below_alloc (Below.refl w.heap.size w) (.cells #[.int .i64 4, .int .i64 wait, .int .u32 frm, .int .u32 dst, .int .i64 unit, .slice A m c, .int .i64 n] 25)).trans (hb1.mono (by simp)))
        have HC1 := Aside0.mk (Kd.C_below (Kd.C_alloc HEA.out.reads (.cells #[.int .i64 4, .int .i64 wait, .int .u32 frm, .int .u32 dst, .int .i64 unit, .slice A m c, .int .i64 n] 25)) hb1)
        clear hk hb1
      | (with_reducible refine (hn1 _).mono ?_); rintro e w2 ⟨rfl, q1, rfl⟩
      | (with_reducible refine (hn2 _).mono ?_); rintro e w3 ⟨rfl, q2, rfl⟩
      | (with_reducible refine (hn3 _).mono ?_); rintro e w4 ⟨rfl, q3, rfl⟩)
  go_ret2
  refine ⟨rfl, ?_⟩
  repeat (first | exact HB.out | refine pw_below_drewN ?_ _)
theorem renc_text5 (wait frm dst unit : Int) (l : List Int) (n : Int) : ba (encL 5 wait frm dst unit l n) = (⟨#[100, 114, 97, 119]⟩ : ByteArray) ++ (⟨#[32]⟩ ++ ba (Lib.itoa wait)) ++ (⟨#[32]⟩ ++ ba (Lib.itoa n)) := by
  apply ByteArray.ext
  simp [ba, ByteArray.data_append, encL, glue, tailP, wordP]
set_option maxRecDepth 100000 in
set_option maxHeartbeats 2000000 in
theorem renc5 (wait frm dst unit : Int) (A : Option Addr) (m c : Nat) (l : List Int) (n : Int) (w : World) (HE : EvOk w wait frm dst unit A m c l n) (hmc : m ≤ c) (hf : formP 5 wait unit n m = 0) :
    Calls Tryz.prog 11 #[evV 5 wait frm dst unit A m c n] w fun e w' => e = .returned (.tuple #[.string (ba (encL 5 wait frm dst unit l n)), .int .i64 0]) ∧ Below w.heap.size w w' := by
  have hform := fun W hC => refForm_calls 5 wait frm dst unit A m c l n W hmc hC HE.n0
  rw [hf] at hform
  have hn1 := number19_calls wait HE.wait0.1 HE.wait0.2
  have hn2 := number19_calls unit HE.unit0.1 HE.unit0.2
  have hn3 := number19_calls n HE.n0.1 HE.n0.2
  have hpf := refPrint_calls frm HE.frm0.1 HE.frm0.2
  have hpt := refPrint_calls dst HE.dst0.1 HE.dst0.2
  have hdt := fun W hC => refData_calls A m c l W hC HE.bytes HE.small
  have hX := renc_text5 wait frm dst unit l n
  have s1 : (ba (Lib.itoa wait)).size ≤ 21 := by simpa [ba, ByteArray.size] using itoa_len wait HE.wait0
  have s2 : (ba (Lib.itoa unit)).size ≤ 21 := by simpa [ba, ByteArray.size] using itoa_len unit HE.unit0
  have s3 : (ba (Lib.itoa n)).size ≤ 21 := by simpa [ba, ByteArray.size] using itoa_len n HE.n0
  have s4 : (ba (printP frm)).size ≤ 43 := by simpa [ba, ByteArray.size] using print_len frm
  have s5 : (ba (printP dst)).size ≤ 43 := by simpa [ba, ByteArray.size] using print_len dst
  have s6 : (ba (dataP l)).size ≤ 2097153 := by have h1 := dataP_len l; have h2 : l.length = m := HE.reads.1; have h3 := HE.small; simp [ba, ByteArray.size]; omega
  have HEA := Aside0.mk HE
  clear HE hf hmc
  unfold evV at hform ⊢
  obtain ⟨X, hXX⟩ : ∃ X, X = ba (encL 5 wait frm dst unit l n) := ⟨_, rfl⟩
  rw [← hXX] at hX ⊢
  clear hXX
  change ∀ w : World, Calls _ _ _ w fun e w' => e = .returned (.string (ba (printP frm))) ∧ _ at hpf
  change ∀ w : World, Calls _ _ _ w fun e w' => e = .returned (.string (ba (printP dst))) ∧ _ at hpt
  generalize ba (Lib.itoa wait) = Y1 at hn1 hX s1
  generalize ba (Lib.itoa unit) = Y2 at hn2 hX s2
  generalize ba (Lib.itoa n) = Y3 at hn3 hX s3
  generalize ba (printP frm) = Y4 at hpf hX s4
  generalize ba (printP dst) = Y5 at hpt hX s5
  generalize ba (dataP l) = Y6 at hdt hX s6
  subst hX
  go_enter Tryz.func11, Tryz.ntmps11
  go_wp2_with (
    first
      | (with_reducible refine (hform _ (Kd.C_alloc HEA.out.reads _)).mono ?_); rintro e w1 ⟨rfl, hb1⟩
        have hk := (hb1.block _ (blk_lt (heap_alloc_new w _))).trans (heap_alloc_new w _)
        have k0 := (blk_cell hk 0).trans rfl
        have k1 := (blk_cell hk 1).trans rfl
        have k2 := (blk_cell hk 2).trans rfl
        have k3 := (blk_cell hk 3).trans rfl
        have k4 := (blk_cell hk 4).trans rfl
        have k5 := (blk_cell hk 5).trans rfl
        have k6 := (blk_cell hk 6).trans rfl
        have HB := Aside0.mk ((below_alloc (Below.refl w.heap.size w) (.cells #[.int .i64 5, .int .i64 wait, .int .u32 frm, .int .u32 dst, .int .i64 unit, .slice A m c, .int .i64 n] 25)).trans (hb1.mono (by simp)))
        have HC1 := Aside0.mk (Kd.C_below (Kd.C_alloc HEA.out.reads (.cells #[.int .i64 5, .int .i64 wait, .int .u32 frm, .int .u32 dst, .int .i64 unit, .slice A m c, .int .i64 n] 25)) hb1)
        clear hk hb1
      | (with_reducible refine (hn1 _).mono ?_); rintro e w2 ⟨rfl, q1, rfl⟩
      | (with_reducible refine (hn2 _).mono ?_); rintro e w3 ⟨rfl, q2, rfl⟩
      | (with_reducible refine (hn3 _).mono ?_); rintro e w4 ⟨rfl, q3, rfl⟩)
  go_ret2
  refine ⟨rfl, ?_⟩
  repeat (first | exact HB.out | refine pw_below_drewN ?_ _)
theorem renc_text6 (wait frm dst unit : Int) (l : List Int) (n : Int) : ba (encL 6 wait frm dst unit l n) = (⟨#[99, 114, 97, 115, 104]⟩ : ByteArray) ++ (⟨#[32]⟩ ++ ba (Lib.itoa wait)) ++ (⟨#[32]⟩ ++ ba (Lib.itoa n)) := by
  apply ByteArray.ext
  simp [ba, ByteArray.data_append, encL, glue, tailP, wordP]
set_option maxRecDepth 100000 in
set_option maxHeartbeats 2000000 in
theorem renc6 (wait frm dst unit : Int) (A : Option Addr) (m c : Nat) (l : List Int) (n : Int) (w : World) (HE : EvOk w wait frm dst unit A m c l n) (hmc : m ≤ c) (hf : formP 6 wait unit n m = 0) :
    Calls Tryz.prog 11 #[evV 6 wait frm dst unit A m c n] w fun e w' => e = .returned (.tuple #[.string (ba (encL 6 wait frm dst unit l n)), .int .i64 0]) ∧ Below w.heap.size w w' := by
  have hform := fun W hC => refForm_calls 6 wait frm dst unit A m c l n W hmc hC HE.n0
  rw [hf] at hform
  have hn1 := number19_calls wait HE.wait0.1 HE.wait0.2
  have hn2 := number19_calls unit HE.unit0.1 HE.unit0.2
  have hn3 := number19_calls n HE.n0.1 HE.n0.2
  have hpf := refPrint_calls frm HE.frm0.1 HE.frm0.2
  have hpt := refPrint_calls dst HE.dst0.1 HE.dst0.2
  have hdt := fun W hC => refData_calls A m c l W hC HE.bytes HE.small
  have hX := renc_text6 wait frm dst unit l n
  have s1 : (ba (Lib.itoa wait)).size ≤ 21 := by simpa [ba, ByteArray.size] using itoa_len wait HE.wait0
  have s2 : (ba (Lib.itoa unit)).size ≤ 21 := by simpa [ba, ByteArray.size] using itoa_len unit HE.unit0
  have s3 : (ba (Lib.itoa n)).size ≤ 21 := by simpa [ba, ByteArray.size] using itoa_len n HE.n0
  have s4 : (ba (printP frm)).size ≤ 43 := by simpa [ba, ByteArray.size] using print_len frm
  have s5 : (ba (printP dst)).size ≤ 43 := by simpa [ba, ByteArray.size] using print_len dst
  have s6 : (ba (dataP l)).size ≤ 2097153 := by have h1 := dataP_len l; have h2 : l.length = m := HE.reads.1; have h3 := HE.small; simp [ba, ByteArray.size]; omega
  have HEA := Aside0.mk HE
  clear HE hf hmc
  unfold evV at hform ⊢
  obtain ⟨X, hXX⟩ : ∃ X, X = ba (encL 6 wait frm dst unit l n) := ⟨_, rfl⟩
  rw [← hXX] at hX ⊢
  clear hXX
  change ∀ w : World, Calls _ _ _ w fun e w' => e = .returned (.string (ba (printP frm))) ∧ _ at hpf
  change ∀ w : World, Calls _ _ _ w fun e w' => e = .returned (.string (ba (printP dst))) ∧ _ at hpt
  generalize ba (Lib.itoa wait) = Y1 at hn1 hX s1
  generalize ba (Lib.itoa unit) = Y2 at hn2 hX s2
  generalize ba (Lib.itoa n) = Y3 at hn3 hX s3
  generalize ba (printP frm) = Y4 at hpf hX s4
  generalize ba (printP dst) = Y5 at hpt hX s5
  generalize ba (dataP l) = Y6 at hdt hX s6
  subst hX
  go_enter Tryz.func11, Tryz.ntmps11
  go_wp2_with (
    first
      | (with_reducible refine (hform _ (Kd.C_alloc HEA.out.reads _)).mono ?_); rintro e w1 ⟨rfl, hb1⟩
        have hk := (hb1.block _ (blk_lt (heap_alloc_new w _))).trans (heap_alloc_new w _)
        have k0 := (blk_cell hk 0).trans rfl
        have k1 := (blk_cell hk 1).trans rfl
        have k2 := (blk_cell hk 2).trans rfl
        have k3 := (blk_cell hk 3).trans rfl
        have k4 := (blk_cell hk 4).trans rfl
        have k5 := (blk_cell hk 5).trans rfl
        have k6 := (blk_cell hk 6).trans rfl
        have HB := Aside0.mk ((below_alloc (Below.refl w.heap.size w) (.cells #[.int .i64 6, .int .i64 wait, .int .u32 frm, .int .u32 dst, .int .i64 unit, .slice A m c, .int .i64 n] 25)).trans (hb1.mono (by simp)))
        have HC1 := Aside0.mk (Kd.C_below (Kd.C_alloc HEA.out.reads (.cells #[.int .i64 6, .int .i64 wait, .int .u32 frm, .int .u32 dst, .int .i64 unit, .slice A m c, .int .i64 n] 25)) hb1)
        clear hk hb1
      | (with_reducible refine (hn1 _).mono ?_); rintro e w2 ⟨rfl, q1, rfl⟩
      | (with_reducible refine (hn2 _).mono ?_); rintro e w3 ⟨rfl, q2, rfl⟩
      | (with_reducible refine (hn3 _).mono ?_); rintro e w4 ⟨rfl, q3, rfl⟩)
  go_ret2
  refine ⟨rfl, ?_⟩
  repeat (first | exact HB.out | refine pw_below_drewN ?_ _)
theorem renc_text7 (wait frm dst unit : Int) (l : List Int) (n : Int) : ba (encL 7 wait frm dst unit l n) = (⟨#[115, 116, 97, 114, 116]⟩ : ByteArray) ++ (⟨#[32]⟩ ++ ba (Lib.itoa wait)) := by
  apply ByteArray.ext
  simp [ba, ByteArray.data_append, encL, glue, tailP, wordP]
set_option maxRecDepth 100000 in
set_option maxHeartbeats 2000000 in
theorem renc7 (wait frm dst unit : Int) (A : Option Addr) (m c : Nat) (l : List Int) (n : Int) (w : World) (HE : EvOk w wait frm dst unit A m c l n) (hmc : m ≤ c) (hf : formP 7 wait unit n m = 0) :
    Calls Tryz.prog 11 #[evV 7 wait frm dst unit A m c n] w fun e w' => e = .returned (.tuple #[.string (ba (encL 7 wait frm dst unit l n)), .int .i64 0]) ∧ Below w.heap.size w w' := by
  have hform := fun W hC => refForm_calls 7 wait frm dst unit A m c l n W hmc hC HE.n0
  rw [hf] at hform
  have hn1 := number19_calls wait HE.wait0.1 HE.wait0.2
  have hn2 := number19_calls unit HE.unit0.1 HE.unit0.2
  have hn3 := number19_calls n HE.n0.1 HE.n0.2
  have hpf := refPrint_calls frm HE.frm0.1 HE.frm0.2
  have hpt := refPrint_calls dst HE.dst0.1 HE.dst0.2
  have hdt := fun W hC => refData_calls A m c l W hC HE.bytes HE.small
  have hX := renc_text7 wait frm dst unit l n
  have s1 : (ba (Lib.itoa wait)).size ≤ 21 := by simpa [ba, ByteArray.size] using itoa_len wait HE.wait0
  have s2 : (ba (Lib.itoa unit)).size ≤ 21 := by simpa [ba, ByteArray.size] using itoa_len unit HE.unit0
  have s3 : (ba (Lib.itoa n)).size ≤ 21 := by simpa [ba, ByteArray.size] using itoa_len n HE.n0
  have s4 : (ba (printP frm)).size ≤ 43 := by simpa [ba, ByteArray.size] using print_len frm
  have s5 : (ba (printP dst)).size ≤ 43 := by simpa [ba, ByteArray.size] using print_len dst
  have s6 : (ba (dataP l)).size ≤ 2097153 := by have h1 := dataP_len l; have h2 : l.length = m := HE.reads.1; have h3 := HE.small; simp [ba, ByteArray.size]; omega
  have HEA := Aside0.mk HE
  clear HE hf hmc
  unfold evV at hform ⊢
  obtain ⟨X, hXX⟩ : ∃ X, X = ba (encL 7 wait frm dst unit l n) := ⟨_, rfl⟩
  rw [← hXX] at hX ⊢
  clear hXX
  change ∀ w : World, Calls _ _ _ w fun e w' => e = .returned (.string (ba (printP frm))) ∧ _ at hpf
  change ∀ w : World, Calls _ _ _ w fun e w' => e = .returned (.string (ba (printP dst))) ∧ _ at hpt
  generalize ba (Lib.itoa wait) = Y1 at hn1 hX s1
  generalize ba (Lib.itoa unit) = Y2 at hn2 hX s2
  generalize ba (Lib.itoa n) = Y3 at hn3 hX s3
  generalize ba (printP frm) = Y4 at hpf hX s4
  generalize ba (printP dst) = Y5 at hpt hX s5
  generalize ba (dataP l) = Y6 at hdt hX s6
  subst hX
  go_enter Tryz.func11, Tryz.ntmps11
  go_wp2_with (
    first
      | (with_reducible refine (hform _ (Kd.C_alloc HEA.out.reads _)).mono ?_); rintro e w1 ⟨rfl, hb1⟩
        have hk := (hb1.block _ (blk_lt (heap_alloc_new w _))).trans (heap_alloc_new w _)
        have k0 := (blk_cell hk 0).trans rfl
        have k1 := (blk_cell hk 1).trans rfl
        have k2 := (blk_cell hk 2).trans rfl
        have k3 := (blk_cell hk 3).trans rfl
        have k4 := (blk_cell hk 4).trans rfl
        have k5 := (blk_cell hk 5).trans rfl
        have k6 := (blk_cell hk 6).trans rfl
        have HB := Aside0.mk ((below_alloc (Below.refl w.heap.size w) (.cells #[.int .i64 7, .int .i64 wait, .int .u32 frm, .int .u32 dst, .int .i64 unit, .slice A m c, .int .i64 n] 25)).trans (hb1.mono (by simp)))
        have HC1 := Aside0.mk (Kd.C_below (Kd.C_alloc HEA.out.reads (.cells #[.int .i64 7, .int .i64 wait, .int .u32 frm, .int .u32 dst, .int .i64 unit, .slice A m c, .int .i64 n] 25)) hb1)
        clear hk hb1
      | (with_reducible refine (hn1 _).mono ?_); rintro e w2 ⟨rfl, q1, rfl⟩
      | (with_reducible refine (hn2 _).mono ?_); rintro e w3 ⟨rfl, q2, rfl⟩
      | (with_reducible refine (hn3 _).mono ?_); rintro e w4 ⟨rfl, q3, rfl⟩)
  go_ret2
  refine ⟨rfl, ?_⟩
  repeat (first | exact HB.out | refine pw_below_drewN ?_ _)
theorem renc_text8 (wait frm dst unit : Int) (l : List Int) (n : Int) : ba (encL 8 wait frm dst unit l n) = (⟨#[114, 97, 116, 101]⟩ : ByteArray) ++ (⟨#[32]⟩ ++ ba (Lib.itoa wait)) ++ (⟨#[32]⟩ ++ ba (Lib.itoa n)) := by
  apply ByteArray.ext
  simp [ba, ByteArray.data_append, encL, glue, tailP, wordP]
set_option maxRecDepth 100000 in
set_option maxHeartbeats 2000000 in
theorem renc8 (wait frm dst unit : Int) (A : Option Addr) (m c : Nat) (l : List Int) (n : Int) (w : World) (HE : EvOk w wait frm dst unit A m c l n) (hmc : m ≤ c) (hf : formP 8 wait unit n m = 0) :
    Calls Tryz.prog 11 #[evV 8 wait frm dst unit A m c n] w fun e w' => e = .returned (.tuple #[.string (ba (encL 8 wait frm dst unit l n)), .int .i64 0]) ∧ Below w.heap.size w w' := by
  have hform := fun W hC => refForm_calls 8 wait frm dst unit A m c l n W hmc hC HE.n0
  rw [hf] at hform
  have hn1 := number19_calls wait HE.wait0.1 HE.wait0.2
  have hn2 := number19_calls unit HE.unit0.1 HE.unit0.2
  have hn3 := number19_calls n HE.n0.1 HE.n0.2
  have hpf := refPrint_calls frm HE.frm0.1 HE.frm0.2
  have hpt := refPrint_calls dst HE.dst0.1 HE.dst0.2
  have hdt := fun W hC => refData_calls A m c l W hC HE.bytes HE.small
  have hX := renc_text8 wait frm dst unit l n
  have s1 : (ba (Lib.itoa wait)).size ≤ 21 := by simpa [ba, ByteArray.size] using itoa_len wait HE.wait0
  have s2 : (ba (Lib.itoa unit)).size ≤ 21 := by simpa [ba, ByteArray.size] using itoa_len unit HE.unit0
  have s3 : (ba (Lib.itoa n)).size ≤ 21 := by simpa [ba, ByteArray.size] using itoa_len n HE.n0
  have s4 : (ba (printP frm)).size ≤ 43 := by simpa [ba, ByteArray.size] using print_len frm
  have s5 : (ba (printP dst)).size ≤ 43 := by simpa [ba, ByteArray.size] using print_len dst
  have s6 : (ba (dataP l)).size ≤ 2097153 := by have h1 := dataP_len l; have h2 : l.length = m := HE.reads.1; have h3 := HE.small; simp [ba, ByteArray.size]; omega
  have HEA := Aside0.mk HE
  clear HE hf hmc
  unfold evV at hform ⊢
  obtain ⟨X, hXX⟩ : ∃ X, X = ba (encL 8 wait frm dst unit l n) := ⟨_, rfl⟩
  rw [← hXX] at hX ⊢
  clear hXX
  change ∀ w : World, Calls _ _ _ w fun e w' => e = .returned (.string (ba (printP frm))) ∧ _ at hpf
  change ∀ w : World, Calls _ _ _ w fun e w' => e = .returned (.string (ba (printP dst))) ∧ _ at hpt
  generalize ba (Lib.itoa wait) = Y1 at hn1 hX s1
  generalize ba (Lib.itoa unit) = Y2 at hn2 hX s2
  generalize ba (Lib.itoa n) = Y3 at hn3 hX s3
  generalize ba (printP frm) = Y4 at hpf hX s4
  generalize ba (printP dst) = Y5 at hpt hX s5
  generalize ba (dataP l) = Y6 at hdt hX s6
  subst hX
  go_enter Tryz.func11, Tryz.ntmps11
  go_wp2_with (
    first
      | (with_reducible refine (hform _ (Kd.C_alloc HEA.out.reads _)).mono ?_); rintro e w1 ⟨rfl, hb1⟩
        have hk := (hb1.block _ (blk_lt (heap_alloc_new w _))).trans (heap_alloc_new w _)
        have k0 := (blk_cell hk 0).trans rfl
        have k1 := (blk_cell hk 1).trans rfl
        have k2 := (blk_cell hk 2).trans rfl
        have k3 := (blk_cell hk 3).trans rfl
        have k4 := (blk_cell hk 4).trans rfl
        have k5 := (blk_cell hk 5).trans rfl
        have k6 := (blk_cell hk 6).trans rfl
        have HB := Aside0.mk ((below_alloc (Below.refl w.heap.size w) (.cells #[.int .i64 8, .int .i64 wait, .int .u32 frm, .int .u32 dst, .int .i64 unit, .slice A m c, .int .i64 n] 25)).trans (hb1.mono (by simp)))
        have HC1 := Aside0.mk (Kd.C_below (Kd.C_alloc HEA.out.reads (.cells #[.int .i64 8, .int .i64 wait, .int .u32 frm, .int .u32 dst, .int .i64 unit, .slice A m c, .int .i64 n] 25)) hb1)
        clear hk hb1
      | (with_reducible refine (hn1 _).mono ?_); rintro e w2 ⟨rfl, q1, rfl⟩
      | (with_reducible refine (hn2 _).mono ?_); rintro e w3 ⟨rfl, q2, rfl⟩
      | (with_reducible refine (hn3 _).mono ?_); rintro e w4 ⟨rfl, q3, rfl⟩)
  go_ret2
  refine ⟨rfl, ?_⟩
  repeat (first | exact HB.out | refine pw_below_drewN ?_ _)
set_option maxRecDepth 100000 in
set_option maxHeartbeats 1000000 in
theorem refEncode_calls (kind wait frm dst unit : Int) (A : Option Addr) (m c : Nat) (l : List Int) (n : Int) (w : World) (HE : EvOk w wait frm dst unit A m c l n) (hmc : m ≤ c) :
    Calls Tryz.prog 11 #[evV kind wait frm dst unit A m c n] w fun e w' => e = .returned (.tuple #[.string (ba (encP kind wait frm dst unit l n).1), .int .i64 (encP kind wait frm dst unit l n).2]) ∧ Below w.heap.size w w' := by
  have hm : l.length = m := HE.reads.1
  by_cases hf : formP kind wait unit n m = 0
  · have e : encP kind wait frm dst unit l n = (encL kind wait frm dst unit l n, 0) := by unfold encP; rw [hm, if_pos hf]
    rw [e]
    have hk := form_kind hf
    have hk8 : kind = 1 ∨ kind = 2 ∨ kind = 3 ∨ kind = 4 ∨ kind = 5 ∨ kind = 6 ∨ kind = 7 ∨ kind = 8 := by omega
    rcases hk8 with rfl | rfl | rfl | rfl | rfl | rfl | rfl | rfl
    · exact renc1 wait frm dst unit A m c l n w HE hmc hf
    · exact renc2 wait frm dst unit A m c l n w HE hmc hf
    · exact renc3 wait frm dst unit A m c l n w HE hmc hf
    · exact renc4 wait frm dst unit A m c l n w HE hmc hf
    · exact renc5 wait frm dst unit A m c l n w HE hmc hf
    · exact renc6 wait frm dst unit A m c l n w HE hmc hf
    · exact renc7 wait frm dst unit A m c l n w HE hmc hf
    · exact renc8 wait frm dst unit A m c l n w HE hmc hf
  · have e : encP kind wait frm dst unit l n = ([], formP kind wait unit n m) := by unfold encP; rw [hm, if_neg hf]
    rw [e]
    have hform := fun W hC => refForm_calls kind wait frm dst unit A m c l n W hmc hC HE.n0
    generalize formP kind wait unit n m = z at *
    have hz : (z == 0) = false := beq_eq_false_iff_ne.2 hf
    have hz' : (z != 0) = true := by rw [bne, hz]; rfl
    have HR := Aside0.mk HE.reads
    clear e hm HE hf
    unfold evV at hform ⊢
    go_enter Tryz.func11, Tryz.ntmps11
    go_wp2_with ((with_reducible refine (hform _ (Kd.C_alloc HR.out _)).mono ?_); rintro e w1 ⟨rfl, hb1⟩)
    go_ret2
    exact ⟨rfl, (below_alloc (Below.refl _ _) _).trans (hb1.mono (by simp))⟩
end Go.Proofs.YtdndmbcejoodpaaGreatDoor
