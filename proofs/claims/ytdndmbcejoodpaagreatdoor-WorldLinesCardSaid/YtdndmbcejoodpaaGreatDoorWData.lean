/- The walk of world.data: bytes in digits. -/
import Derived.Test.YtdndmbcejoodpaaGreatDoorWBuild
import Derived.Test.YtdndmbcejoodpaaGreatDoorCAddr
namespace Go.Proofs.YtdndmbcejoodpaaGreatDoor
open Go.RowKit Go.Proofs.YtdndmbcejoodpaaGreatDoorW.PrintWords Go.Proofs.YtdndmbcejoodpaaGreatDoorW.PrintLast Go.Proofs.YtdndmbcejoodpaaGreatDoorW.PrintMore
set_option linter.unusedVariables false
set_option linter.unusedSimpArgs false
def hexC : Nat → UInt8
  | 0 => 48 | 1 => 49 | 2 => 50 | 3 => 51 | 4 => 52 | 5 => 53 | 6 => 54 | 7 => 55 | 8 => 56 | 9 => 57 | 10 => 97 | 11 => 98 | 12 => 99 | 13 => 100 | 14 => 101 | _ => 102
/-- Bytes in digits, two each. -/
def hexL : List Int → List UInt8
  | [] => []
  | b :: r => hexC (b / 16).toNat :: hexC (b % 16).toNat :: hexL r
def dataP (l : List Int) : List UInt8 := if l = [] then [45] else hexL l
theorem hexL_snoc (l : List Int) (b : Int) : hexL (l ++ [b]) = hexL l ++ [hexC (b / 16).toNat, hexC (b % 16).toNat] := by
  induction l with
  | nil => rfl
  | cons a r ih => simp only [List.cons_append, hexL, ih]
theorem hexL_len (l : List Int) : (hexL l).length = 2 * l.length := by
  induction l with
  | nil => rfl
  | cons a r ih => simp only [hexL, List.length_cons, ih]; omega
/-- The cells of a slice that is read. -/
theorem cells_of_C {w : World} {k : IntKind} {A : Option Addr} {n : Nat} {xs : List Int} (h : Kd.C (Kd.int k) w A n xs) (hn : 0 < n) : ∃ ad, A = some ad ∧ ∀ j v, (nums k xs)[j]? = some v → w.cell? (ad.add j) = some v := by
  obtain ⟨ad, e, hc⟩ := h.2.2 hn
  refine ⟨ad, e, fun j v hv => ?_⟩
  have hj : j < xs.length := by
    rcases Nat.lt_or_ge j xs.length with h | h
    · exact h
    · rw [List.getElem?_eq_none (by simp [nums]; omega)] at hv; cases hv
  obtain ⟨c, h1, h2, h3⟩ := hc j _ (List.getElem?_eq_getElem hj)
  have hc' : c = [.int k xs[j]] := h2
  subst hc'
  have hv' : v = .int k xs[j] := by
    simp only [nums, List.getElem?_map, List.getElem?_eq_getElem hj, Option.map_some, Option.some.injEq] at hv
    exact hv.symm
  subst hv'
  have := h3 0 _ rfl
  rwa [show j * (Kd.int k).sz + 0 = j by show j * 1 + 0 = j; omega] at this
theorem hexC_at (d : Int) (h0 : 0 ≤ d) (h1 : d < 16) (W : World) : (Instr.index 9 (.string ⟨#[48, 49, 50, 51, 52, 53, 54, 55, 56, 57, 97, 98, 99, 100, 101, 102]⟩) (.int .u8 d)).run Tryz.prog W = .ok (.int .u8 ((hexC d.toNat).toNat : Int)) W := by
  have hd : d = 0 ∨ d = 1 ∨ d = 2 ∨ d = 3 ∨ d = 4 ∨ d = 5 ∨ d = 6 ∨ d = 7 ∨ d = 8 ∨ d = 9 ∨ d = 10 ∨ d = 11 ∨ d = 12 ∨ d = 13 ∨ d = 14 ∨ d = 15 := by omega
  rw [run_index_string _ _ _ _ _ Tryz.underlying9, dif_pos (by simp [ByteArray.size]; omega)]
  rcases hd with rfl | rfl | rfl | rfl | rfl | rfl | rfl | rfl | rfl | rfl | rfl | rfl | rfl | rfl | rfl | rfl <;> rfl
theorem and15 (b : Int) (h0 : 0 ≤ b) (h1 : b < 256) : Go.bits .and .u8 b 15 = b % 16 := bits_mask .u8 8 (by decide) wraps_u8 4 (by decide) b h0 h1
set_option maxRecDepth 100000 in
set_option maxHeartbeats 2000000 in
theorem data_calls (A : Option Addr) (n c : Nat) (l : List Int) (w : World) (hr : Kd.C (Kd.int .u8) w A n l) (hb : ∀ b ∈ l, 0 ≤ b ∧ b < 256) (hn : n ≤ 1048576) :
    Calls Tryz.prog 28 #[.slice A n c] w fun e w' => e = .returned (.string ⟨(dataP l).toArray⟩) ∧ Below w.heap.size w w' := by
  have hl : l.length = n := hr.1
  by_cases h0 : n = 0
  · have hX : dataP l = [45] := by unfold dataP; rw [if_pos (List.eq_nil_of_length_eq_zero (by omega))]
    rw [hX]
    clear hX hr hb hl hn
    subst h0
    go_enter Tryz.func28, Tryz.ntmps28
    go_wp2_with fail
    go_ret
    exact ⟨rfl, Below.refl _ _⟩
  · have hX : dataP l = hexL l := by unfold dataP; rw [if_neg (by intro h; rw [h] at hl; simp at hl; omega)]
    rw [hX]
    obtain ⟨X, hXX⟩ : ∃ X, X = (⟨(hexL l).toArray⟩ : ByteArray) := ⟨_, rfl⟩
    rw [← hXX]
    have HX := Aside0.mk hXX
    clear hXX hX
    have h0' : ((n : Int) == 0) = false := beq_eq_false_iff_ne.2 (by omega)
    have HR := Aside0.mk hr
    have HBY := Aside0.mk (And.intro hb hl)
    clear hr hb hl
    go_enter Tryz.func28, Tryz.ntmps28
    go_wp2_with fail
    have hn2 := heap_alloc_new w (.cells #[.pointer none, .slice none 0 0] 96)
    have HQ := Aside0.mk (builder_fresh w.heap.size _ w.heap.size (Nat.le_refl _) hn2)
    have hbel2 := below_alloc (Below.refl w.heap.size w) (.cells #[.pointer none, .slice none 0 0] 96)
    clear hn2
    go_loopw [11] (fun v11 wr => ∃ k : Nat, k ≤ n ∧ v11 = .int .i64 k ∧ Aside0 (Lib.IsBuilder 96 5 w.heap.size w.heap.size (Lib.byteCells (hexL (l.take k))) wr) ∧ Below w.heap.size w wr) (fun v11 _ => n - (RowKit.intOf v11).toNat)
    case atStart => exact ⟨0, Nat.zero_le _, rfl, HQ, hbel2⟩
    case round =>
      clear HQ hbel2
      obtain ⟨k, hk, rfl, HQ, hbr⟩ := hrel
      by_cases hlt : k < n
      · have hkl : k < l.length := by rw [HBY.out.2]; exact hlt
        obtain ⟨x, hx⟩ : ∃ x, x = l[k] := ⟨_, rfl⟩
        have hxb := HBY.out.1 l[k] (List.getElem_mem hkl)
        rw [← hx] at hxb
        obtain ⟨ad, hA, hcells⟩ := cells_of_C (Kd.C_below HR.out hbr) (by omega)
        subst hA
        have hc := hcells k (.int .u8 x) (by rw [hx]; simp [nums, hkl])
        have htk : l.take (k + 1) = l.take k ++ [x] := by rw [List.take_add_one, List.getElem?_eq_getElem hkl, hx]; rfl
        have HT := Aside0.mk (show hexL (l.take (k + 1)) = hexL (l.take k) ++ [hexC (x / 16).toNat] ++ [hexC (x % 16).toNat] by rw [htk, hexL_snoc]; simp)
        have hlen : (hexL (l.take k)).length + 4 ≤ 140737488355328 := by rw [hexL_len, List.length_take]; omega
        have h1 := hxb.1
        have h2 := hxb.2
        have i1 := hexC_at (x / 16) (by omega) (by omega)
        have i2 := hexC_at (x % 16) (by omega) (by omega)
        have e15 := and15 x h1 h2
        have w1 := writeByte_calls w.heap.size w.heap.size (hexL (l.take k)) (hexC (x / 16).toNat) wr HQ.out (by omega) hbr.size
        have w2 := fun W HW hs => writeByte_calls w.heap.size w.heap.size (hexL (l.take k) ++ [hexC (x / 16).toNat]) (hexC (x % 16).toNat) W HW (by simp; omega) hs
        have hltz : (k : Int) < (n : Int) := by omega
        clear htk hcells hxb hx
        generalize (((hexC (x / 16).toNat).toNat : Nat) : Int) = y1 at i1 w1
        generalize (((hexC (x % 16).toNat).toNat : Nat) : Int) = y2 at i2 w2
        go_wp2_with fail
        refine w1.mono ?_
        rintro e w3 ⟨rfl, hq3, hb3, hs3⟩
        have w2 := w2 w3 hq3 (Nat.le_trans hbr.size hs3)
        clear hq3 w1
        go_wp2_with fail
        refine w2.mono ?_
        rintro e w4 ⟨rfl, hq4, hb4, hs4⟩
        clear w2
        have hb5 := (hbr.trans hb3).trans hb4
        have HQ4 := Aside0.mk hq4
        clear hq4 hb3 hb4
        go_wp2_with fail
        go_roundw
        case measure => simp [RowKit.intOf]; omega
        case rel => exact ⟨k + 1, by omega, by go_num, ⟨by rw [HT.out]; exact HQ4.out⟩, hb5⟩
      · obtain rfl : k = n := by omega
        have ht : l.take k = l := by rw [List.take_of_length_le (by rw [HBY.out.2]; exact Nat.le_refl _)]
        have hs := Tryz.Builder_String_any w.heap.size w.heap.size (hexL l) wr (by have := HQ.out; rw [ht] at this; exact this) hbr.size
        rw [← HX.out] at hs
        clear ht
        go_wp2_with (go_at_call 63; refine hs.mono ?_; rintro e w5 ⟨rfl, hb5⟩)
        go_ret
        exact ⟨rfl, hbr.trans hb5⟩
end Go.Proofs.YtdndmbcejoodpaaGreatDoor
