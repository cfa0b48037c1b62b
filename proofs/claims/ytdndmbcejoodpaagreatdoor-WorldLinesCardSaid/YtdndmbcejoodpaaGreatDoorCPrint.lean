/- The walk of conf.PrintAddr. -/
import Derived.Test.YtdndmbcejoodpaaGreatDoorCAddr
import Derived.Deep.DeepMust
namespace Go.Proofs.YtdndmbcejoodpaaGreatDoor
open Go.RowKit Go.Proofs.YtdndmbcejoodpaaGreatDoorW.PrintWords Go.Proofs.YtdndmbcejoodpaaGreatDoorW.PrintLast Go.Proofs.YtdndmbcejoodpaaGreatDoorW.PrintMore
set_option linter.unusedVariables false
set_option linter.unusedSimpArgs false
theorem str_info : (Tryz.prog.info? 9).map (fun i => (i.zero, i.size, i.bytes)) = some (some (.string ⟨#[]⟩), 1, 16) := by kernel_rfl
theorem glue_join (c : UInt8) : ∀ ps : List (List UInt8), Lib.join ps [c] = glue c ps := by
  intro ps
  match ps with
  | [] => rfl
  | [p] => simp [Lib.join_one, glue]
  | p :: q :: r =>
    have ih := glue_join c (q :: r)
    rw [Lib.join_cons] at ih ⊢
    simp only [glue]
    rw [← ih]
    simp [Lib.joinTail]
def partS (a : Int) : Nat → ByteArray
  | 0 => ⟨(numeral (a / 16777216 % 256)).toArray⟩
  | 1 => ⟨(numeral (a / 65536 % 256)).toArray⟩
  | 2 => ⟨(numeral (a / 256 % 256)).toArray⟩
  | _ => ⟨(numeral (a % 256)).toArray⟩
def cnt : Nat → Int
  | 0 => 24
  | 1 => 16
  | 2 => 8
  | 3 => 0
  | _ => -8
theorem itoa_numeral (n : Int) (h : 0 ≤ n) : Lib.itoa n = numeral n := by unfold Lib.itoa numeral; rw [if_neg (by omega)]
theorem numeral_len (n : Int) (h0 : 0 ≤ n) (h1 : n < 10000000000) : (numeral n).length ≤ 10 := (numP_some (numP_numeral n h0 h1)).2.2.2.2.2
theorem print_parts (a : Int) : printP a = glue 46 ([partS a 0, partS a 1, partS a 2, partS a 3].map (·.data.toList)) := rfl
theorem print_len (a : Int) : (printP a).length ≤ 43 := by
  have h : ∀ x : Int, (numeral (x % 256)).length ≤ 10 := fun x => numeral_len _ (by omega) (by omega)
  have h1 := h (a / 16777216)
  have h2 := h (a / 65536)
  have h3 := h (a / 256)
  have h4 := h a
  unfold printP partsP
  simp only [glue, List.length_append, List.length_cons]
  omega
/-- Join of a row that is owned. -/
theorem join_calls {w : World} {base : Nat} {v : Value} {xs : List ByteArray} (c : UInt8) (h : w.ownsRow base 9 1 v xs.length (xs.map Value.string)) (hlen : (glue c (xs.map (·.data.toList))).length ≤ 140737488355328) (hN : xs.length ≤ 140737488355328) :
    Calls Tryz.prog 29 #[v, .string ⟨#[c]⟩] w fun e w' => e = .returned (.string ⟨(glue c (xs.map (·.data.toList))).toArray⟩) ∧ Below w.heap.size w w' := by
  rw [← glue_join] at hlen ⊢
  have h0 := h
  rcases h.2 with ⟨rfl, hn⟩ | ⟨g, cap, cur, rfl, hg, hh, hcap, _, _⟩
  · have hx : xs = [] := List.eq_nil_of_length_eq_zero hn
    subst hx
    exact (Tryz.strings_Join_none none 0 ⟨#[c]⟩ w).mono fun e w' ⟨he, hw⟩ => ⟨he, by rw [hw]; exact Below.refl _ _⟩
  · exact Tryz.strings_Join g 0 cap xs ⟨#[c]⟩ w (fun j x hx => by
      have := h0.cells (g := g) rfl j (.string x) (by rw [List.getElem?_map, hx]; rfl)
      rw [Nat.zero_add]
      rwa [add_plain] at this) (blk_lt hh) hN hcap hlen
set_option maxRecDepth 100000 in
set_option maxHeartbeats 2000000 in
theorem printAddr_calls (a : Int) (h0 : 0 ≤ a) (h1 : a < 4294967296) (w : World) (HV : Laid w) :
    Calls Tryz.prog 27 #[.int .u32 a] w fun e w' => e = .returned (.string ⟨(printP a).toArray⟩) ∧ Below w.heap.size w w' := by
  have HVA := Aside0.mk HV
  clear HV
  obtain ⟨X, hX⟩ : ∃ X, X = (⟨(printP a).toArray⟩ : ByteArray) := ⟨_, rfl⟩
  rw [← hX]
  have HX := Aside0.mk hX
  clear hX
  have e3 := and_byte (a / 16777216) (by omega) (by omega)
  have e2 := and_byte (a / 65536) (by omega) (by omega)
  have e1 := and_byte (a / 256) (by omega) (by omega)
  have e0 := and_byte a h0 h1
  go_enter Tryz.func27, Tryz.ntmps27
  go_wp2_with fail
  go_loopw [3, 4] (fun v3 v4 wr => ∃ k : Nat, k ≤ 4 ∧ v4 = .int .i64 (cnt k) ∧ Aside0 (wr.ownsRow w.heap.size 9 1 v3 (([partS a 0, partS a 1, partS a 2, partS a 3].take k).map Value.string).length (([partS a 0, partS a 1, partS a 2, partS a 3].take k).map Value.string)) ∧ Below w.heap.size w wr) (fun _ v4 _ => (RowKit.intOf v4 + 8).toNat)
  case atStart => exact ⟨0, by omega, rfl, ⟨own_nil _ _ _ _⟩, Below.refl _ _⟩
  case round =>
    obtain ⟨k, hk, rfl, HO, hb⟩ := hrel
    have hk5 : k = 0 ∨ k = 1 ∨ k = 2 ∨ k = 3 ∨ k = 4 := by omega
    have HV := Aside0.mk (HVA.out.on hb)
    rcases hk5 with rfl | rfl | rfl | rfl | rfl
    · have HI : ∀ W, Laid W → Calls Tryz.prog 26 #[.int .i64 (a / 16777216 % 256)] W fun e w' => e = .returned (.string (partS a 0)) ∧ Below W.heap.size W w' := fun W HW => by
        have := itoa_calls (a / 16777216 % 256) (by omega) (by omega) W HW
        rw [itoa_numeral _ (by omega)] at this
        exact this
      replace HO : Aside0 (wr.ownsRow w.heap.size 9 1 u3 ([] : List Value).length []) := HO
      dsimp only [cnt]
      go_wp2_with (first
        | (refine (HI _ HV.out).mono ?_; rintro e w2 ⟨rfl, hb2⟩)
        | (refine gate_builtin (b := .append) rfl ?_; go_must ((refine print_append (w0 := w) w.heap.size rfl (.tmp 9) (.tmp 17) 44 9 (.string ⟨#[]⟩) 16 rfl Tryz.underlying44 str_info rfl (by decide) u3 [] (.string (partS a 0)) rfl rfl rfl (pw_own_below HO.out hb2) (hb.trans (hb2.mono hb.size)) (Nat.le_trans hb.size hb2.size) (by simp only [List.length_cons, List.length_nil]; omega) ?_; intro v1 w3 hown hb3 hg hat))))
      go_roundw
      case measure => simp [RowKit.intOf, cnt]
      case rel => exact ⟨1, by omega, rfl, ⟨hown⟩, hb3⟩
    · have HI : ∀ W, Laid W → Calls Tryz.prog 26 #[.int .i64 (a / 65536 % 256)] W fun e w' => e = .returned (.string (partS a 1)) ∧ Below W.heap.size W w' := fun W HW => by
        have := itoa_calls (a / 65536 % 256) (by omega) (by omega) W HW
        rw [itoa_numeral _ (by omega)] at this
        exact this
      replace HO : Aside0 (wr.ownsRow w.heap.size 9 1 u3 ([.string (partS a 0)] : List Value).length [.string (partS a 0)]) := HO
      dsimp only [cnt]
      go_wp2_with (first
        | (refine (HI _ HV.out).mono ?_; rintro e w2 ⟨rfl, hb2⟩)
        | (refine gate_builtin (b := .append) rfl ?_; go_must ((refine print_append (w0 := w) w.heap.size rfl (.tmp 9) (.tmp 17) 44 9 (.string ⟨#[]⟩) 16 rfl Tryz.underlying44 str_info rfl (by decide) u3 [.string (partS a 0)] (.string (partS a 1)) rfl rfl rfl (pw_own_below HO.out hb2) (hb.trans (hb2.mono hb.size)) (Nat.le_trans hb.size hb2.size) (by simp only [List.length_cons, List.length_nil]; omega) ?_; intro v1 w3 hown hb3 hg hat))))
      go_roundw
      case measure => simp [RowKit.intOf, cnt]
      case rel => exact ⟨2, by omega, rfl, ⟨hown⟩, hb3⟩
    · have HI : ∀ W, Laid W → Calls Tryz.prog 26 #[.int .i64 (a / 256 % 256)] W fun e w' => e = .returned (.string (partS a 2)) ∧ Below W.heap.size W w' := fun W HW => by
        have := itoa_calls (a / 256 % 256) (by omega) (by omega) W HW
        rw [itoa_numeral _ (by omega)] at this
        exact this
      replace HO : Aside0 (wr.ownsRow w.heap.size 9 1 u3 ([.string (partS a 0), .string (partS a 1)] : List Value).length [.string (partS a 0), .string (partS a 1)]) := HO
      dsimp only [cnt]
      go_wp2_with (first
        | (refine (HI _ HV.out).mono ?_; rintro e w2 ⟨rfl, hb2⟩)
        | (refine gate_builtin (b := .append) rfl ?_; go_must ((refine print_append (w0 := w) w.heap.size rfl (.tmp 9) (.tmp 17) 44 9 (.string ⟨#[]⟩) 16 rfl Tryz.underlying44 str_info rfl (by decide) u3 [.string (partS a 0), .string (partS a 1)] (.string (partS a 2)) rfl rfl rfl (pw_own_below HO.out hb2) (hb.trans (hb2.mono hb.size)) (Nat.le_trans hb.size hb2.size) (by simp only [List.length_cons, List.length_nil]; omega) ?_; intro v1 w3 hown hb3 hg hat))))
      go_roundw
      case measure => simp [RowKit.intOf, cnt]
      case rel => exact ⟨3, by omega, rfl, ⟨hown⟩, hb3⟩
    · have HI : ∀ W, Laid W → Calls Tryz.prog 26 #[.int .i64 (a % 256)] W fun e w' => e = .returned (.string (partS a 3)) ∧ Below W.heap.size W w' := fun W HW => by
        have := itoa_calls (a % 256) (by omega) (by omega) W HW
        rw [itoa_numeral _ (by omega)] at this
        exact this
      replace HO : Aside0 (wr.ownsRow w.heap.size 9 1 u3 ([.string (partS a 0), .string (partS a 1), .string (partS a 2)] : List Value).length [.string (partS a 0), .string (partS a 1), .string (partS a 2)]) := HO
      dsimp only [cnt]
      go_wp2_with (first
        | (refine (HI _ HV.out).mono ?_; rintro e w2 ⟨rfl, hb2⟩)
        | (refine gate_builtin (b := .append) rfl ?_; go_must ((refine print_append (w0 := w) w.heap.size rfl (.tmp 9) (.tmp 17) 44 9 (.string ⟨#[]⟩) 16 rfl Tryz.underlying44 str_info rfl (by decide) u3 [.string (partS a 0), .string (partS a 1), .string (partS a 2)] (.string (partS a 3)) rfl rfl rfl (pw_own_below HO.out hb2) (hb.trans (hb2.mono hb.size)) (Nat.le_trans hb.size hb2.size) (by simp only [List.length_cons, List.length_nil]; omega) ?_; intro v1 w3 hown hb3 hg hat))))
      go_roundw
      case measure => simp [RowKit.intOf, cnt]
      case rel => exact ⟨4, by omega, rfl, ⟨hown⟩, hb3⟩
    · replace HO : Aside0 (wr.ownsRow w.heap.size 9 1 u3 4 ([partS a 0, partS a 1, partS a 2, partS a 3].map Value.string)) := HO
      have hX : X = ⟨(glue 46 ([partS a 0, partS a 1, partS a 2, partS a 3].map (·.data.toList))).toArray⟩ := by rw [HX.out, print_parts]
      have hJ := fun h => join_calls (xs := [partS a 0, partS a 1, partS a 2, partS a 3]) (w := wr) 46 HO.out h (by simp only [List.length_cons, List.length_nil]; omega)
      rw [← hX] at hJ
      have hJ := hJ (by rw [← print_parts]; have := print_len a; omega)
      clear hX
      dsimp only [cnt]
      go_wp2_with (go_at_call 29; refine hJ.mono ?_; rintro e w2 ⟨rfl, hb2⟩)
      go_ret
      exact ⟨rfl, hb.trans (hb2.mono hb.size)⟩
end Go.Proofs.YtdndmbcejoodpaaGreatDoor
