/- The walks of world.formed and word. -/
import Derived.Test.YtdndmbcejoodpaaGreatDoorWData
namespace Go.Proofs.YtdndmbcejoodpaaGreatDoor
open Go.RowKit Go.Proofs.YtdndmbcejoodpaaGreatDoorW.PrintWords Go.Proofs.YtdndmbcejoodpaaGreatDoorW.PrintLast Go.Proofs.YtdndmbcejoodpaaGreatDoorW.PrintMore
set_option linter.unusedVariables false
set_option linter.unusedSimpArgs false
def fitsP (n lo hi : Int) : Bool := decide (lo ≤ n) && decide (n ≤ hi)
set_option maxRecDepth 100000 in
theorem fits_calls (n lo hi : Int) (w : World) : Calls Tryz.prog 70 #[.int .i64 n, .int .i64 lo, .int .i64 hi] w fun e w' => e = .returned (.bool (fitsP n lo hi)) ∧ w' = w := by
  by_cases h : lo ≤ n
  · have e : fitsP n lo hi = decide (n ≤ hi) := by simp [fitsP, h]
    rw [e]
    clear e
    have hd : decide (lo ≤ n) = true := decide_eq_true h
    go_enter Tryz.func70, Tryz.ntmps70
    go_wp2_with fail
    all_goals (go_ret; first | exact ⟨rfl, rfl⟩ | (refine ⟨?_, rfl⟩; simp_all))
  · have e : fitsP n lo hi = false := by simp [fitsP, h]
    rw [e]
    clear e
    have hd : decide (lo ≤ n) = false := decide_eq_false h
    go_enter Tryz.func70, Tryz.ntmps70
    go_wp2_with fail
    go_ret
    exact ⟨rfl, rfl⟩
def loP (kind : Int) : Int := if kind = 4 ∨ kind = 5 then 0 else if kind = 6 then -1 else if kind = 8 then -524288000 else -9223372036854775808
def hiP (kind : Int) : Int := if kind = 4 then 1048575 else if kind = 5 ∨ kind = 6 then 2147483647 else if kind = 8 then 524288000 else 9223372036854775807
def rangedP (kind unit n : Int) : Bool := (!(kind == 3 || kind == 4) || fitsP unit 0 3) && fitsP n (loP kind) (hiP kind)
def evV (kind wait frm dst unit : Int) (A : Option Addr) (m c : Nat) (n : Int) : Value := .agg #[.int .i64 kind, .int .i64 wait, .int .u32 frm, .int .u32 dst, .int .i64 unit, .slice A m c, .int .i64 n]
/-- The table of ranged: two bounds a kind. -/
def rangeTab : Value := .agg #[.int .i64 0, .int .i64 0, .int .i64 0, .int .i64 0, .int .i64 0, .int .i64 0, .int .i64 0, .int .i64 0, .int .i64 0, .int .i64 1048575, .int .i64 0, .int .i64 2147483647, .int .i64 (-1), .int .i64 2147483647, .int .i64 0, .int .i64 0, .int .i64 (-524288000), .int .i64 524288000]
theorem range_at1 (W : World) : (Instr.index 146 (.agg #[.int .i64 0, .int .i64 0, .int .i64 0, .int .i64 0, .int .i64 0, .int .i64 0, .int .i64 0, .int .i64 0, .int .i64 0, .int .i64 1048575, .int .i64 0, .int .i64 2147483647, .int .i64 (-1), .int .i64 2147483647, .int .i64 0, .int .i64 0, .int .i64 (-524288000), .int .i64 524288000]) (.int .i64 1)).run Tryz.prog W = .ok (.agg #[.int .i64 0, .int .i64 0]) W := by kernel_rfl
theorem range_nil1 (W : World) : (binOp .eql 145 (.agg #[.int .i64 0, .int .i64 0]) (.agg #[.int .i64 0, .int .i64 0])).run Tryz.prog W = .ok (.bool true) W := by kernel_rfl
theorem range_at2 (W : World) : (Instr.index 146 (.agg #[.int .i64 0, .int .i64 0, .int .i64 0, .int .i64 0, .int .i64 0, .int .i64 0, .int .i64 0, .int .i64 0, .int .i64 0, .int .i64 1048575, .int .i64 0, .int .i64 2147483647, .int .i64 (-1), .int .i64 2147483647, .int .i64 0, .int .i64 0, .int .i64 (-524288000), .int .i64 524288000]) (.int .i64 2)).run Tryz.prog W = .ok (.agg #[.int .i64 0, .int .i64 0]) W := by kernel_rfl
theorem range_nil2 (W : World) : (binOp .eql 145 (.agg #[.int .i64 0, .int .i64 0]) (.agg #[.int .i64 0, .int .i64 0])).run Tryz.prog W = .ok (.bool true) W := by kernel_rfl
theorem range_at3 (W : World) : (Instr.index 146 (.agg #[.int .i64 0, .int .i64 0, .int .i64 0, .int .i64 0, .int .i64 0, .int .i64 0, .int .i64 0, .int .i64 0, .int .i64 0, .int .i64 1048575, .int .i64 0, .int .i64 2147483647, .int .i64 (-1), .int .i64 2147483647, .int .i64 0, .int .i64 0, .int .i64 (-524288000), .int .i64 524288000]) (.int .i64 3)).run Tryz.prog W = .ok (.agg #[.int .i64 0, .int .i64 0]) W := by kernel_rfl
theorem range_nil3 (W : World) : (binOp .eql 145 (.agg #[.int .i64 0, .int .i64 0]) (.agg #[.int .i64 0, .int .i64 0])).run Tryz.prog W = .ok (.bool true) W := by kernel_rfl
theorem range_at4 (W : World) : (Instr.index 146 (.agg #[.int .i64 0, .int .i64 0, .int .i64 0, .int .i64 0, .int .i64 0, .int .i64 0, .int .i64 0, .int .i64 0, .int .i64 0, .int .i64 1048575, .int .i64 0, .int .i64 2147483647, .int .i64 (-1), .int .i64 2147483647, .int .i64 0, .int .i64 0, .int .i64 (-524288000), .int .i64 524288000]) (.int .i64 4)).run Tryz.prog W = .ok (.agg #[.int .i64 0, .int .i64 1048575]) W := by kernel_rfl
theorem range_nil4 (W : World) : (binOp .eql 145 (.agg #[.int .i64 0, .int .i64 1048575]) (.agg #[.int .i64 0, .int .i64 0])).run Tryz.prog W = .ok (.bool false) W := by kernel_rfl
theorem range_at5 (W : World) : (Instr.index 146 (.agg #[.int .i64 0, .int .i64 0, .int .i64 0, .int .i64 0, .int .i64 0, .int .i64 0, .int .i64 0, .int .i64 0, .int .i64 0, .int .i64 1048575, .int .i64 0, .int .i64 2147483647, .int .i64 (-1), .int .i64 2147483647, .int .i64 0, .int .i64 0, .int .i64 (-524288000), .int .i64 524288000]) (.int .i64 5)).run Tryz.prog W = .ok (.agg #[.int .i64 0, .int .i64 2147483647]) W := by kernel_rfl
theorem range_nil5 (W : World) : (binOp .eql 145 (.agg #[.int .i64 0, .int .i64 2147483647]) (.agg #[.int .i64 0, .int .i64 0])).run Tryz.prog W = .ok (.bool false) W := by kernel_rfl
theorem range_at6 (W : World) : (Instr.index 146 (.agg #[.int .i64 0, .int .i64 0, .int .i64 0, .int .i64 0, .int .i64 0, .int .i64 0, .int .i64 0, .int .i64 0, .int .i64 0, .int .i64 1048575, .int .i64 0, .int .i64 2147483647, .int .i64 (-1), .int .i64 2147483647, .int .i64 0, .int .i64 0, .int .i64 (-524288000), .int .i64 524288000]) (.int .i64 6)).run Tryz.prog W = .ok (.agg #[.int .i64 (-1), .int .i64 2147483647]) W := by kernel_rfl
theorem range_nil6 (W : World) : (binOp .eql 145 (.agg #[.int .i64 (-1), .int .i64 2147483647]) (.agg #[.int .i64 0, .int .i64 0])).run Tryz.prog W = .ok (.bool false) W := by kernel_rfl
theorem range_at7 (W : World) : (Instr.index 146 (.agg #[.int .i64 0, .int .i64 0, .int .i64 0, .int .i64 0, .int .i64 0, .int .i64 0, .int .i64 0, .int .i64 0, .int .i64 0, .int .i64 1048575, .int .i64 0, .int .i64 2147483647, .int .i64 (-1), .int .i64 2147483647, .int .i64 0, .int .i64 0, .int .i64 (-524288000), .int .i64 524288000]) (.int .i64 7)).run Tryz.prog W = .ok (.agg #[.int .i64 0, .int .i64 0]) W := by kernel_rfl
theorem range_nil7 (W : World) : (binOp .eql 145 (.agg #[.int .i64 0, .int .i64 0]) (.agg #[.int .i64 0, .int .i64 0])).run Tryz.prog W = .ok (.bool true) W := by kernel_rfl
theorem range_at8 (W : World) : (Instr.index 146 (.agg #[.int .i64 0, .int .i64 0, .int .i64 0, .int .i64 0, .int .i64 0, .int .i64 0, .int .i64 0, .int .i64 0, .int .i64 0, .int .i64 1048575, .int .i64 0, .int .i64 2147483647, .int .i64 (-1), .int .i64 2147483647, .int .i64 0, .int .i64 0, .int .i64 (-524288000), .int .i64 524288000]) (.int .i64 8)).run Tryz.prog W = .ok (.agg #[.int .i64 (-524288000), .int .i64 524288000]) W := by kernel_rfl
theorem range_nil8 (W : World) : (binOp .eql 145 (.agg #[.int .i64 (-524288000), .int .i64 524288000]) (.agg #[.int .i64 0, .int .i64 0])).run Tryz.prog W = .ok (.bool false) W := by kernel_rfl
set_option maxRecDepth 100000 in
set_option maxHeartbeats 1000000 in
theorem ranged1 (wait frm dst unit : Int) (A : Option Addr) (m c : Nat) (n : Int) (w : World) :
    Calls Tryz.prog 71 #[evV 1 wait frm dst unit A m c n] w fun e w' => e = .returned (.bool (rangedP 1 unit n)) ∧ Below w.heap.size w w' := by
  have hf := fun n lo hi W => fits_calls n lo hi W
  have ri := range_at1
  have re := range_nil1
  unfold evV
  have e : rangedP 1 unit n = fitsP n (loP 1) (hiP 1) := by simp [rangedP]
  rw [e]
  have hf2 := fun W => hf n (loP 1) (hiP 1) W
  rw [show loP 1 = (-9223372036854775808) from rfl, show hiP 1 = 9223372036854775807 from rfl]
  simp only [show loP 1 = (-9223372036854775808) from rfl, show hiP 1 = 9223372036854775807 from rfl] at hf2
  clear e hf
  go_enter Tryz.func71, Tryz.ntmps71
  go_wp2_with ((with_reducible refine (hf2 _).mono ?_); rintro e w' ⟨rfl, rfl⟩)
  go_ret
  exact ⟨rfl, (below_alloc (below_alloc (Below.refl _ _) _) _)⟩
set_option maxRecDepth 100000 in
set_option maxHeartbeats 1000000 in
theorem ranged2 (wait frm dst unit : Int) (A : Option Addr) (m c : Nat) (n : Int) (w : World) :
    Calls Tryz.prog 71 #[evV 2 wait frm dst unit A m c n] w fun e w' => e = .returned (.bool (rangedP 2 unit n)) ∧ Below w.heap.size w w' := by
  have hf := fun n lo hi W => fits_calls n lo hi W
  have ri := range_at2
  have re := range_nil2
  unfold evV
  have e : rangedP 2 unit n = fitsP n (loP 2) (hiP 2) := by simp [rangedP]
  rw [e]
  have hf2 := fun W => hf n (loP 2) (hiP 2) W
  rw [show loP 2 = (-9223372036854775808) from rfl, show hiP 2 = 9223372036854775807 from rfl]
  simp only [show loP 2 = (-9223372036854775808) from rfl, show hiP 2 = 9223372036854775807 from rfl] at hf2
  clear e hf
  go_enter Tryz.func71, Tryz.ntmps71
  go_wp2_with ((with_reducible refine (hf2 _).mono ?_); rintro e w' ⟨rfl, rfl⟩)
  go_ret
  exact ⟨rfl, (below_alloc (below_alloc (Below.refl _ _) _) _)⟩
set_option maxRecDepth 100000 in
set_option maxHeartbeats 1000000 in
theorem ranged3 (wait frm dst unit : Int) (A : Option Addr) (m c : Nat) (n : Int) (w : World) :
    Calls Tryz.prog 71 #[evV 3 wait frm dst unit A m c n] w fun e w' => e = .returned (.bool (rangedP 3 unit n)) ∧ Below w.heap.size w w' := by
  have hf := fun n lo hi W => fits_calls n lo hi W
  have ri := range_at3
  have re := range_nil3
  unfold evV
  cases hb : fitsP unit 0 3 with
  | false =>
    have hf1 := fun W => hf unit 0 3 W
    rw [hb] at hf1
    have e : rangedP 3 unit n = false := by simp [rangedP, hb]
    rw [e]
    clear e hb hf
    go_enter Tryz.func71, Tryz.ntmps71
    go_wp2_with ((with_reducible refine (hf1 _).mono ?_); rintro e w' ⟨rfl, rfl⟩)
    go_ret
    exact ⟨rfl, below_alloc (below_alloc (Below.refl _ _) _) _⟩
  | true =>
    have hf1 := fun W => hf unit 0 3 W
    rw [hb] at hf1
    have e : rangedP 3 unit n = fitsP n (loP 3) (hiP 3) := by simp [rangedP, hb]
    rw [e]
    have hf2 := fun W => hf n (loP 3) (hiP 3) W
    rw [show loP 3 = (-9223372036854775808) from rfl, show hiP 3 = 9223372036854775807 from rfl]
    simp only [show loP 3 = (-9223372036854775808) from rfl, show hiP 3 = 9223372036854775807 from rfl] at hf2
    clear e hb hf
    go_enter Tryz.func71, Tryz.ntmps71
    go_wp2_with (first
      | ((with_reducible refine (hf1 _).mono ?_); rintro e w' ⟨rfl, rfl⟩)
      | ((with_reducible refine (hf2 _).mono ?_); rintro e w' ⟨rfl, rfl⟩))
    go_ret
    exact ⟨rfl, below_alloc (below_alloc (Below.refl _ _) _) _⟩
set_option maxRecDepth 100000 in
set_option maxHeartbeats 1000000 in
theorem ranged4 (wait frm dst unit : Int) (A : Option Addr) (m c : Nat) (n : Int) (w : World) :
    Calls Tryz.prog 71 #[evV 4 wait frm dst unit A m c n] w fun e w' => e = .returned (.bool (rangedP 4 unit n)) ∧ Below w.heap.size w w' := by
  have hf := fun n lo hi W => fits_calls n lo hi W
  have ri := range_at4
  have re := range_nil4
  unfold evV
  cases hb : fitsP unit 0 3 with
  | false =>
    have hf1 := fun W => hf unit 0 3 W
    rw [hb] at hf1
    have e : rangedP 4 unit n = false := by simp [rangedP, hb]
    rw [e]
    clear e hb hf
    go_enter Tryz.func71, Tryz.ntmps71
    go_wp2_with ((with_reducible refine (hf1 _).mono ?_); rintro e w' ⟨rfl, rfl⟩)
    go_ret
    exact ⟨rfl, below_alloc (below_alloc (Below.refl _ _) _) _⟩
  | true =>
    have hf1 := fun W => hf unit 0 3 W
    rw [hb] at hf1
    have e : rangedP 4 unit n = fitsP n (loP 4) (hiP 4) := by simp [rangedP, hb]
    rw [e]
    have hf2 := fun W => hf n (loP 4) (hiP 4) W
    rw [show loP 4 = 0 from rfl, show hiP 4 = 1048575 from rfl]
    simp only [show loP 4 = 0 from rfl, show hiP 4 = 1048575 from rfl] at hf2
    clear e hb hf
    go_enter Tryz.func71, Tryz.ntmps71
    go_wp2_with (first
      | ((with_reducible refine (hf1 _).mono ?_); rintro e w' ⟨rfl, rfl⟩)
      | ((with_reducible refine (hf2 _).mono ?_); rintro e w' ⟨rfl, rfl⟩))
    go_ret
    exact ⟨rfl, below_alloc (below_alloc (Below.refl _ _) _) _⟩
set_option maxRecDepth 100000 in
set_option maxHeartbeats 1000000 in
theorem ranged5 (wait frm dst unit : Int) (A : Option Addr) (m c : Nat) (n : Int) (w : World) :
    Calls Tryz.prog 71 #[evV 5 wait frm dst unit A m c n] w fun e w' => e = .returned (.bool (rangedP 5 unit n)) ∧ Below w.heap.size w w' := by
  have hf := fun n lo hi W => fits_calls n lo hi W
  have ri := range_at5
  have re := range_nil5
  unfold evV
  have e : rangedP 5 unit n = fitsP n (loP 5) (hiP 5) := by simp [rangedP]
  rw [e]
  have hf2 := fun W => hf n (loP 5) (hiP 5) W
  rw [show loP 5 = 0 from rfl, show hiP 5 = 2147483647 from rfl]
  simp only [show loP 5 = 0 from rfl, show hiP 5 = 2147483647 from rfl] at hf2
  clear e hf
  go_enter Tryz.func71, Tryz.ntmps71
  go_wp2_with ((with_reducible refine (hf2 _).mono ?_); rintro e w' ⟨rfl, rfl⟩)
  go_ret
  exact ⟨rfl, below_alloc (below_alloc (Below.refl _ _) _) _⟩
set_option maxRecDepth 100000 in
set_option maxHeartbeats 1000000 in
theorem ranged6 (wait frm dst unit : Int) (A : Option Addr) (m c : Nat) (n : Int) (w : World) :
    Calls Tryz.prog 71 #[evV 6 wait frm dst unit A m c n] w fun e w' => e = .returned (.bool (rangedP 6 unit n)) ∧ Below w.heap.size w w' := by
  have hf := fun n lo hi W => fits_calls n lo hi W
  have ri := range_at6
  have re := range_nil6
  unfold evV
  have e : rangedP 6 unit n = fitsP n (loP 6) (hiP 6) := by simp [rangedP]
  rw [e]
  have hf2 := fun W => hf n (loP 6) (hiP 6) W
  rw [show loP 6 = (-1) from rfl, show hiP 6 = 2147483647 from rfl]
  simp only [show loP 6 = (-1) from rfl, show hiP 6 = 2147483647 from rfl] at hf2
  clear e hf
  go_enter Tryz.func71, Tryz.ntmps71
  go_wp2_with ((with_reducible refine (hf2 _).mono ?_); rintro e w' ⟨rfl, rfl⟩)
  go_ret
  exact ⟨rfl, below_alloc (below_alloc (Below.refl _ _) _) _⟩
set_option maxRecDepth 100000 in
set_option maxHeartbeats 1000000 in
theorem ranged7 (wait frm dst unit : Int) (A : Option Addr) (m c : Nat) (n : Int) (w : World) :
    Calls Tryz.prog 71 #[evV 7 wait frm dst unit A m c n] w fun e w' => e = .returned (.bool (rangedP 7 unit n)) ∧ Below w.heap.size w w' := by
  have hf := fun n lo hi W => fits_calls n lo hi W
  have ri := range_at7
  have re := range_nil7
  unfold evV
  have e : rangedP 7 unit n = fitsP n (loP 7) (hiP 7) := by simp [rangedP]
  rw [e]
  have hf2 := fun W => hf n (loP 7) (hiP 7) W
  rw [show loP 7 = (-9223372036854775808) from rfl, show hiP 7 = 9223372036854775807 from rfl]
  simp only [show loP 7 = (-9223372036854775808) from rfl, show hiP 7 = 9223372036854775807 from rfl] at hf2
  clear e hf
  go_enter Tryz.func71, Tryz.ntmps71
  go_wp2_with ((with_reducible refine (hf2 _).mono ?_); rintro e w' ⟨rfl, rfl⟩)
  go_ret
  exact ⟨rfl, (below_alloc (below_alloc (Below.refl _ _) _) _)⟩
set_option maxRecDepth 100000 in
set_option maxHeartbeats 1000000 in
theorem ranged8 (wait frm dst unit : Int) (A : Option Addr) (m c : Nat) (n : Int) (w : World) :
    Calls Tryz.prog 71 #[evV 8 wait frm dst unit A m c n] w fun e w' => e = .returned (.bool (rangedP 8 unit n)) ∧ Below w.heap.size w w' := by
  have hf := fun n lo hi W => fits_calls n lo hi W
  have ri := range_at8
  have re := range_nil8
  unfold evV
  have e : rangedP 8 unit n = fitsP n (loP 8) (hiP 8) := by simp [rangedP]
  rw [e]
  have hf2 := fun W => hf n (loP 8) (hiP 8) W
  rw [show loP 8 = (-524288000) from rfl, show hiP 8 = 524288000 from rfl]
  simp only [show loP 8 = (-524288000) from rfl, show hiP 8 = 524288000 from rfl] at hf2
  clear e hf
  go_enter Tryz.func71, Tryz.ntmps71
  go_wp2_with ((with_reducible refine (hf2 _).mono ?_); rintro e w' ⟨rfl, rfl⟩)
  go_ret
  exact ⟨rfl, below_alloc (below_alloc (Below.refl _ _) _) _⟩
theorem ranged_calls (kind wait frm dst unit : Int) (A : Option Addr) (m c : Nat) (n : Int) (w : World) (h1 : 1 ≤ kind) (h8 : kind ≤ 8) :
    Calls Tryz.prog 71 #[evV kind wait frm dst unit A m c n] w fun e w' => e = .returned (.bool (rangedP kind unit n)) ∧ Below w.heap.size w w' := by
  have hk : kind = 1 ∨ kind = 2 ∨ kind = 3 ∨ kind = 4 ∨ kind = 5 ∨ kind = 6 ∨ kind = 7 ∨ kind = 8 := by omega
  rcases hk with rfl | rfl | rfl | rfl | rfl | rfl | rfl | rfl
  · exact ranged1 wait frm dst unit A m c n w
  · exact ranged2 wait frm dst unit A m c n w
  · exact ranged3 wait frm dst unit A m c n w
  · exact ranged4 wait frm dst unit A m c n w
  · exact ranged5 wait frm dst unit A m c n w
  · exact ranged6 wait frm dst unit A m c n w
  · exact ranged7 wait frm dst unit A m c n w
  · exact ranged8 wait frm dst unit A m c n w
end Go.Proofs.YtdndmbcejoodpaaGreatDoor
namespace Go.Proofs.YtdndmbcejoodpaaGreatDoor
open Go.RowKit Go.Proofs.YtdndmbcejoodpaaGreatDoorW.PrintWords Go.Proofs.YtdndmbcejoodpaaGreatDoorW.PrintLast Go.Proofs.YtdndmbcejoodpaaGreatDoorW.PrintMore
set_option linter.unusedVariables false
set_option linter.unusedSimpArgs false
/-- P20.3, without the clock. -/
def formP (kind wait unit n : Int) (m : Nat) : Int :=
  if fitsP kind 1 8 = true ∧ fitsP wait 0 1024 = true ∧ rangedP kind unit n = true then (if (kind = 2 ∨ kind = 3) ∧ 512 < m then 31 else 0) else 1
set_option maxRecDepth 100000 in
set_option maxHeartbeats 1000000 in
theorem formed_calls (kind wait frm dst unit : Int) (A : Option Addr) (m c : Nat) (n : Int) (w : World) :
    Calls Tryz.prog 24 #[evV kind wait frm dst unit A m c n] w fun e w' => e = .returned (.int .i64 (formP kind wait unit n m)) ∧ Below w.heap.size w w' := by
  have hr := fun W h1 h8 => ranged_calls kind wait frm dst unit A m c n W h1 h8
  cases h1 : fitsP kind 1 8 with
  | false =>
    have hf := fun W => fits_calls kind 1 8 W
    rw [h1] at hf
    have e : formP kind wait unit n m = 1 := by simp [formP, h1]
    rw [e]
    clear e h1 hr
    unfold evV
    go_enter Tryz.func24, Tryz.ntmps24
    go_wp2_with ((with_reducible refine (hf _).mono ?_); rintro e w' ⟨rfl, rfl⟩)
    go_ret
    exact ⟨rfl, below_alloc (Below.refl _ _) _⟩
  | true =>
    have hk : 1 ≤ kind ∧ kind ≤ 8 := by simpa [fitsP] using h1
    have hf := fun W => fits_calls kind 1 8 W
    rw [h1] at hf
    have hr := fun W => hr W hk.1 hk.2
    have HK := Aside0.mk hk
    clear hk
    cases h2 : fitsP wait 0 1024 with
    | false =>
      have hf2 := fun W => fits_calls wait 0 1024 W
      rw [h2] at hf2
      have e : formP kind wait unit n m = 1 := by simp [formP, h2]
      rw [e]
      clear e h1 h2 hr
      unfold evV
      go_enter Tryz.func24, Tryz.ntmps24
      go_wp2_with (first | ((with_reducible refine (hf _).mono ?_); rintro e w' ⟨rfl, rfl⟩) | ((with_reducible refine (hf2 _).mono ?_); rintro e w' ⟨rfl, rfl⟩))
      go_ret
      exact ⟨rfl, below_alloc (Below.refl _ _) _⟩
    | true =>
      have hf2 := fun W => fits_calls wait 0 1024 W
      rw [h2] at hf2
      cases h3 : rangedP kind unit n with
      | false =>
        rw [h3] at hr
        have e : formP kind wait unit n m = 1 := by simp [formP, h3]
        rw [e]
        clear e h1 h2 h3
        unfold evV at hr ⊢
        go_enter Tryz.func24, Tryz.ntmps24
        go_wp2_with (first | ((with_reducible refine (hf _).mono ?_); rintro e w' ⟨rfl, rfl⟩) | ((with_reducible refine (hf2 _).mono ?_); rintro e w' ⟨rfl, rfl⟩) | ((with_reducible refine (hr _).mono ?_); rintro e w' ⟨rfl, hb⟩))
        go_ret
        exact ⟨rfl, (below_alloc (Below.refl _ _) _).trans (hb.mono (by simp))⟩
      | true =>
        rw [h3] at hr
        have e : formP kind wait unit n m = if (kind = 2 ∨ kind = 3) ∧ 512 < m then 31 else 0 := by simp [formP, h1, h2, h3]
        rw [e]
        clear e h1 h2 h3
        unfold evV at hr ⊢
        by_cases hk : kind = 2 ∨ kind = 3
        · by_cases hm : 512 < m
          · rw [if_pos ⟨hk, hm⟩]
            have hmz : decide ((512 : Int) < (m : Int)) = true := decide_eq_true (by omega)
            rcases hk with rfl | rfl
            · clear hm
              go_enter Tryz.func24, Tryz.ntmps24
              go_wp2_with (first | ((with_reducible refine (hf _).mono ?_); rintro e w' ⟨rfl, rfl⟩) | ((with_reducible refine (hf2 _).mono ?_); rintro e w' ⟨rfl, rfl⟩) | ((with_reducible refine (hr _).mono ?_); rintro e w5 ⟨rfl, hb⟩; have k0 := (hb.cell (p := ⟨w.heap.size, 0, none⟩) (by simp)).trans ((blk_cell (heap_alloc_new w _) 0).trans rfl); have k5 := (hb.cell (p := ⟨w.heap.size, 5, none⟩) (by simp)).trans ((blk_cell (heap_alloc_new w _) 5).trans rfl); have HB := Aside0.mk (show Below w.heap.size w w5 from (below_alloc (Below.refl _ _) _).trans (hb.mono (by simp))); clear hb))
              go_ret
              exact ⟨rfl, HB.out⟩
            · clear hm
              go_enter Tryz.func24, Tryz.ntmps24
              go_wp2_with (first | ((with_reducible refine (hf _).mono ?_); rintro e w' ⟨rfl, rfl⟩) | ((with_reducible refine (hf2 _).mono ?_); rintro e w' ⟨rfl, rfl⟩) | ((with_reducible refine (hr _).mono ?_); rintro e w5 ⟨rfl, hb⟩; have k0 := (hb.cell (p := ⟨w.heap.size, 0, none⟩) (by simp)).trans ((blk_cell (heap_alloc_new w _) 0).trans rfl); have k5 := (hb.cell (p := ⟨w.heap.size, 5, none⟩) (by simp)).trans ((blk_cell (heap_alloc_new w _) 5).trans rfl); have HB := Aside0.mk (show Below w.heap.size w w5 from (below_alloc (Below.refl _ _) _).trans (hb.mono (by simp))); clear hb))
              go_ret
              exact ⟨rfl, HB.out⟩
          · rw [if_neg (fun h => hm h.2)]
            have hmz : decide ((512 : Int) < (m : Int)) = false := decide_eq_false (by omega)
            rcases hk with rfl | rfl
            · clear hm
              go_enter Tryz.func24, Tryz.ntmps24
              go_wp2_with (first | ((with_reducible refine (hf _).mono ?_); rintro e w' ⟨rfl, rfl⟩) | ((with_reducible refine (hf2 _).mono ?_); rintro e w' ⟨rfl, rfl⟩) | ((with_reducible refine (hr _).mono ?_); rintro e w5 ⟨rfl, hb⟩; have k0 := (hb.cell (p := ⟨w.heap.size, 0, none⟩) (by simp)).trans ((blk_cell (heap_alloc_new w _) 0).trans rfl); have k5 := (hb.cell (p := ⟨w.heap.size, 5, none⟩) (by simp)).trans ((blk_cell (heap_alloc_new w _) 5).trans rfl); have HB := Aside0.mk (show Below w.heap.size w w5 from (below_alloc (Below.refl _ _) _).trans (hb.mono (by simp))); clear hb))
              go_ret
              exact ⟨rfl, HB.out⟩
            · clear hm
              go_enter Tryz.func24, Tryz.ntmps24
              go_wp2_with (first | ((with_reducible refine (hf _).mono ?_); rintro e w' ⟨rfl, rfl⟩) | ((with_reducible refine (hf2 _).mono ?_); rintro e w' ⟨rfl, rfl⟩) | ((with_reducible refine (hr _).mono ?_); rintro e w5 ⟨rfl, hb⟩; have k0 := (hb.cell (p := ⟨w.heap.size, 0, none⟩) (by simp)).trans ((blk_cell (heap_alloc_new w _) 0).trans rfl); have k5 := (hb.cell (p := ⟨w.heap.size, 5, none⟩) (by simp)).trans ((blk_cell (heap_alloc_new w _) 5).trans rfl); have HB := Aside0.mk (show Below w.heap.size w w5 from (below_alloc (Below.refl _ _) _).trans (hb.mono (by simp))); clear hb))
              go_ret
              exact ⟨rfl, HB.out⟩
        · rw [if_neg (fun h => hk h.1)]
          have q2 : (kind == 2) = false := beq_eq_false_iff_ne.2 (by omega)
          have q3 : (kind == 3) = false := beq_eq_false_iff_ne.2 (by omega)
          clear hk
          go_enter Tryz.func24, Tryz.ntmps24
          go_wp2_with (first | ((with_reducible refine (hf _).mono ?_); rintro e w' ⟨rfl, rfl⟩) | ((with_reducible refine (hf2 _).mono ?_); rintro e w' ⟨rfl, rfl⟩) | ((with_reducible refine (hr _).mono ?_); rintro e w5 ⟨rfl, hb⟩; have k0 := (hb.cell (p := ⟨w.heap.size, 0, none⟩) (by simp)).trans ((blk_cell (heap_alloc_new w _) 0).trans rfl); have k5 := (hb.cell (p := ⟨w.heap.size, 5, none⟩) (by simp)).trans ((blk_cell (heap_alloc_new w _) 5).trans rfl); have HB := Aside0.mk (show Below w.heap.size w w5 from (below_alloc (Below.refl _ _) _).trans (hb.mono (by simp))); clear hb))
          go_ret
          exact ⟨rfl, HB.out⟩
def wordP (kind : Int) : List UInt8 :=
  if kind = 1 then [116, 105, 99, 107] else if kind = 2 then [112, 97, 99, 107, 101, 116] else if kind = 3 then [115, 101, 114, 105, 97, 108] else if kind = 4 then [112, 117, 108, 115, 101]
  else if kind = 5 then [100, 114, 97, 119] else if kind = 6 then [99, 114, 97, 115, 104] else if kind = 7 then [115, 116, 97, 114, 116] else [114, 97, 116, 101]
theorem word_at1 (W : World) : (Instr.index 113 (.agg #[.string ⟨#[]⟩, .string ⟨#[116, 105, 99, 107]⟩, .string ⟨#[112, 97, 99, 107, 101, 116]⟩, .string ⟨#[115, 101, 114, 105, 97, 108]⟩, .string ⟨#[112, 117, 108, 115, 101]⟩, .string ⟨#[100, 114, 97, 119]⟩, .string ⟨#[99, 114, 97, 115, 104]⟩, .string ⟨#[115, 116, 97, 114, 116]⟩, .string ⟨#[114, 97, 116, 101]⟩]) (.int .i64 1)).run Tryz.prog W = .ok (.string ⟨(wordP 1).toArray⟩) W := by kernel_rfl
theorem word_at2 (W : World) : (Instr.index 113 (.agg #[.string ⟨#[]⟩, .string ⟨#[116, 105, 99, 107]⟩, .string ⟨#[112, 97, 99, 107, 101, 116]⟩, .string ⟨#[115, 101, 114, 105, 97, 108]⟩, .string ⟨#[112, 117, 108, 115, 101]⟩, .string ⟨#[100, 114, 97, 119]⟩, .string ⟨#[99, 114, 97, 115, 104]⟩, .string ⟨#[115, 116, 97, 114, 116]⟩, .string ⟨#[114, 97, 116, 101]⟩]) (.int .i64 2)).run Tryz.prog W = .ok (.string ⟨(wordP 2).toArray⟩) W := by kernel_rfl
theorem word_at3 (W : World) : (Instr.index 113 (.agg #[.string ⟨#[]⟩, .string ⟨#[116, 105, 99, 107]⟩, .string ⟨#[112, 97, 99, 107, 101, 116]⟩, .string ⟨#[115, 101, 114, 105, 97, 108]⟩, .string ⟨#[112, 117, 108, 115, 101]⟩, .string ⟨#[100, 114, 97, 119]⟩, .string ⟨#[99, 114, 97, 115, 104]⟩, .string ⟨#[115, 116, 97, 114, 116]⟩, .string ⟨#[114, 97, 116, 101]⟩]) (.int .i64 3)).run Tryz.prog W = .ok (.string ⟨(wordP 3).toArray⟩) W := by kernel_rfl
theorem word_at4 (W : World) : (Instr.index 113 (.agg #[.string ⟨#[]⟩, .string ⟨#[116, 105, 99, 107]⟩, .string ⟨#[112, 97, 99, 107, 101, 116]⟩, .string ⟨#[115, 101, 114, 105, 97, 108]⟩, .string ⟨#[112, 117, 108, 115, 101]⟩, .string ⟨#[100, 114, 97, 119]⟩, .string ⟨#[99, 114, 97, 115, 104]⟩, .string ⟨#[115, 116, 97, 114, 116]⟩, .string ⟨#[114, 97, 116, 101]⟩]) (.int .i64 4)).run Tryz.prog W = .ok (.string ⟨(wordP 4).toArray⟩) W := by kernel_rfl
theorem word_at5 (W : World) : (Instr.index 113 (.agg #[.string ⟨#[]⟩, .string ⟨#[116, 105, 99, 107]⟩, .string ⟨#[112, 97, 99, 107, 101, 116]⟩, .string ⟨#[115, 101, 114, 105, 97, 108]⟩, .string ⟨#[112, 117, 108, 115, 101]⟩, .string ⟨#[100, 114, 97, 119]⟩, .string ⟨#[99, 114, 97, 115, 104]⟩, .string ⟨#[115, 116, 97, 114, 116]⟩, .string ⟨#[114, 97, 116, 101]⟩]) (.int .i64 5)).run Tryz.prog W = .ok (.string ⟨(wordP 5).toArray⟩) W := by kernel_rfl
theorem word_at6 (W : World) : (Instr.index 113 (.agg #[.string ⟨#[]⟩, .string ⟨#[116, 105, 99, 107]⟩, .string ⟨#[112, 97, 99, 107, 101, 116]⟩, .string ⟨#[115, 101, 114, 105, 97, 108]⟩, .string ⟨#[112, 117, 108, 115, 101]⟩, .string ⟨#[100, 114, 97, 119]⟩, .string ⟨#[99, 114, 97, 115, 104]⟩, .string ⟨#[115, 116, 97, 114, 116]⟩, .string ⟨#[114, 97, 116, 101]⟩]) (.int .i64 6)).run Tryz.prog W = .ok (.string ⟨(wordP 6).toArray⟩) W := by kernel_rfl
theorem word_at7 (W : World) : (Instr.index 113 (.agg #[.string ⟨#[]⟩, .string ⟨#[116, 105, 99, 107]⟩, .string ⟨#[112, 97, 99, 107, 101, 116]⟩, .string ⟨#[115, 101, 114, 105, 97, 108]⟩, .string ⟨#[112, 117, 108, 115, 101]⟩, .string ⟨#[100, 114, 97, 119]⟩, .string ⟨#[99, 114, 97, 115, 104]⟩, .string ⟨#[115, 116, 97, 114, 116]⟩, .string ⟨#[114, 97, 116, 101]⟩]) (.int .i64 7)).run Tryz.prog W = .ok (.string ⟨(wordP 7).toArray⟩) W := by kernel_rfl
theorem word_at8 (W : World) : (Instr.index 113 (.agg #[.string ⟨#[]⟩, .string ⟨#[116, 105, 99, 107]⟩, .string ⟨#[112, 97, 99, 107, 101, 116]⟩, .string ⟨#[115, 101, 114, 105, 97, 108]⟩, .string ⟨#[112, 117, 108, 115, 101]⟩, .string ⟨#[100, 114, 97, 119]⟩, .string ⟨#[99, 114, 97, 115, 104]⟩, .string ⟨#[115, 116, 97, 114, 116]⟩, .string ⟨#[114, 97, 116, 101]⟩]) (.int .i64 8)).run Tryz.prog W = .ok (.string ⟨(wordP 8).toArray⟩) W := by kernel_rfl
set_option maxRecDepth 100000 in
theorem word_calls (kind : Int) (w : World) (h1 : 1 ≤ kind) (h8 : kind ≤ 8) : Calls Tryz.prog 25 #[.int .i64 kind] w fun e w' => e = .returned (.string ⟨(wordP kind).toArray⟩) ∧ w' = w := by
  have hk : kind = 1 ∨ kind = 2 ∨ kind = 3 ∨ kind = 4 ∨ kind = 5 ∨ kind = 6 ∨ kind = 7 ∨ kind = 8 := by omega
  rcases hk with rfl | rfl | rfl | rfl | rfl | rfl | rfl | rfl
  · have hi := word_at1
    generalize (⟨(wordP 1).toArray⟩ : ByteArray) = X at *
    go_enter Tryz.func25, Tryz.ntmps25
    go_wp2_with fail
    go_ret
    exact ⟨rfl, rfl⟩
  · have hi := word_at2
    generalize (⟨(wordP 2).toArray⟩ : ByteArray) = X at *
    go_enter Tryz.func25, Tryz.ntmps25
    go_wp2_with fail
    go_ret
    exact ⟨rfl, rfl⟩
  · have hi := word_at3
    generalize (⟨(wordP 3).toArray⟩ : ByteArray) = X at *
    go_enter Tryz.func25, Tryz.ntmps25
    go_wp2_with fail
    go_ret
    exact ⟨rfl, rfl⟩
  · have hi := word_at4
    generalize (⟨(wordP 4).toArray⟩ : ByteArray) = X at *
    go_enter Tryz.func25, Tryz.ntmps25
    go_wp2_with fail
    go_ret
    exact ⟨rfl, rfl⟩
  · have hi := word_at5
    generalize (⟨(wordP 5).toArray⟩ : ByteArray) = X at *
    go_enter Tryz.func25, Tryz.ntmps25
    go_wp2_with fail
    go_ret
    exact ⟨rfl, rfl⟩
  · have hi := word_at6
    generalize (⟨(wordP 6).toArray⟩ : ByteArray) = X at *
    go_enter Tryz.func25, Tryz.ntmps25
    go_wp2_with fail
    go_ret
    exact ⟨rfl, rfl⟩
  · have hi := word_at7
    generalize (⟨(wordP 7).toArray⟩ : ByteArray) = X at *
    go_enter Tryz.func25, Tryz.ntmps25
    go_wp2_with fail
    go_ret
    exact ⟨rfl, rfl⟩
  · have hi := word_at8
    generalize (⟨(wordP 8).toArray⟩ : ByteArray) = X at *
    go_enter Tryz.func25, Tryz.ntmps25
    go_wp2_with fail
    go_ret
    exact ⟨rfl, rfl⟩
end Go.Proofs.YtdndmbcejoodpaaGreatDoor
