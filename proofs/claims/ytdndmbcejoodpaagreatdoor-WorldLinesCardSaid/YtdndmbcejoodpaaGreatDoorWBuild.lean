/- The walk of strings.Builder's copyCheck and WriteByte at this program (its copyCheck is cut short behind the panic, so the shelf's laying does not fit it). -/
import Derived.Test.YtdndmbcejoodpaaGreatDoorXShelf
import Derived.Test.YtdndmbcejoodpaaGreatDoorProg
import Derived.Test.YtdndmbcejoodpaaGreatDoorWWords
import Derived.Test.YtdndmbcejoodpaaGreatDoorWLast
import Derived.Test.YtdndmbcejoodpaaGreatDoorWMore
import Derived.Lib.Builder
import Derived.Lib.UnsafeStr
import Derived.Laws.Externs
import Derived.WalkKit
import Derived.Outline
namespace Go.Proofs.YtdndmbcejoodpaaGreatDoor
open Go.RowKit Go.Proofs.YtdndmbcejoodpaaGreatDoorW.PrintWords Go.Proofs.YtdndmbcejoodpaaGreatDoorW.PrintLast Go.Proofs.YtdndmbcejoodpaaGreatDoorW.PrintMore
set_option linter.unusedVariables false
set_option linter.unusedSimpArgs false
theorem builder_size : (Tryz.prog.info? 96).map (fun i => decide (i.size = 2)) = some true := by kernel_rfl
theorem builder_lies : liesAt Tryz.prog Tryz.prog.depth 96 (2 / Tryz.prog.cellsOf 96) 0 96 1 = true := by kernel_rfl
set_option maxRecDepth 100000 in
set_option maxHeartbeats 1000000 in
theorem check_used (b : Nat) (w : World) (h0 : w.cell? ⟨b, 0, none⟩ = some (.pointer (some ⟨b, 0, none⟩))) :
    Calls Tryz.prog 131 #[.pointer (some ⟨b, 0, none⟩)] w fun e w' => e = .returned (.tuple #[]) ∧ w' = w := by
  obtain ⟨j, hj, _⟩ := Option.map_eq_some_iff.1 builder_size
  have hq := fun W => Lib.run_neq_ptr_same (P := Tryz.prog) W ⟨b, 0, none⟩ Tryz.underlying94 hj
  go_enter Tryz.func131, Tryz.ntmps131
  go_wp2_with fail
  go_end0
  exact ⟨rfl, rfl⟩
set_option maxRecDepth 100000 in
set_option maxHeartbeats 1000000 in
theorem check_fresh (b : Nat) (w : World) (h0 : w.cell? ⟨b, 0, none⟩ = some (.pointer none)) (hsh : w.shape? b = some (96, 2)) (hfz : w.frozen? ⟨b, 0, none⟩ = false) :
    Calls Tryz.prog 131 #[.pointer (some ⟨b, 0, none⟩)] w fun e w' => e = .returned (.tuple #[]) ∧ w' = w.setCell ⟨b, 0, none⟩ (.pointer (some ⟨b, 0, none⟩)) := by
  obtain ⟨j, hj, hjs⟩ := Option.map_eq_some_iff.1 builder_size
  have hj2 : j.size ≠ 0 := by simp at hjs; omega
  have q1 := Lib.run_to_unsafe (P := Tryz.prog) w ⟨b, 0, none⟩ Tryz.underlying94 Tryz.underlying183 hj hj2 hsh (Nat.zero_lt_succ 1)
  have q2 := Lib.run_from_unsafe (P := Tryz.prog) w ⟨b, 0, none⟩ Tryz.underlying183 Tryz.underlying94 hj hsh builder_lies
  have q3 : (callFunc 180 #[.pointer (some ⟨b, 0, none⟩)]).run Tryz.prog w = .ok (.value (.pointer (some ⟨b, 0, none⟩))) w := by
    rw [run_callFunc_extern Tryz.func180 (by kernel_rfl) (by kernel_rfl) (by kernel_rfl) (e := Extern.AbiNoEscape.same) (by kernel_rfl), Lib.run_noEscape]
    rfl
  go_enter Tryz.func131, Tryz.ntmps131
  go_wp2_with fail
  go_end0
  exact ⟨rfl, rfl⟩
theorem check_calls (B b : Nat) (bs : List Value) (w : World) (h : Lib.IsBuilder 96 5 B b bs w) :
    Calls Tryz.prog 131 #[.pointer (some ⟨b, 0, none⟩)] w fun e w' => e = .returned (.tuple #[]) ∧ Lib.BuilderAt 96 5 B b (.pointer (some ⟨b, 0, none⟩)) bs w' ∧ Below B w w' ∧ w.heap.size ≤ w'.heap.size := by
  rcases h with h | h
  · refine (check_fresh b w h.cell0 h.shape h.frozen0).mono ?_
    rintro e w' ⟨rfl, rfl⟩
    exact ⟨rfl, h.used _, (Below.refl B w).setCell (p := ⟨b, 0, none⟩) h.1 _, by simp [World.setCell]⟩
  · refine (check_used b w h.cell0).mono ?_
    rintro e w' ⟨rfl, rfl⟩
    exact ⟨rfl, h, Below.refl B _, Nat.le_refl _⟩
theorem u8_info : (Tryz.prog.info? 5).map (fun i => (i.zero, i.size, i.bytes)) = some (some (.int .u8 0), 1, 1) := by kernel_rfl
theorem nums_bytes (l : List UInt8) : nums .u8 (l.map fun c => (c.toNat : Int)) = Lib.byteCells l := by simp [nums, Lib.byteCells]
set_option maxRecDepth 100000 in
set_option maxHeartbeats 1000000 in
theorem writeByte_calls (B b : Nat) (l : List UInt8) (c : UInt8) (w : World) (h : Lib.IsBuilder 96 5 B b (Lib.byteCells l) w) (hlen : l.length + 1 ≤ 140737488355328) (hBw : B ≤ w.heap.size) :
    Calls Tryz.prog 73 #[.pointer (some ⟨b, 0, none⟩), .int .u8 (c.toNat : Int)] w fun e w' => e = .returned .nilIface ∧ Lib.IsBuilder 96 5 B b (Lib.byteCells (l ++ [c])) w' ∧ Below B w w' ∧ w.heap.size ≤ w'.heap.size := by
  have hc := check_calls B b _ w h
  clear h
  obtain ⟨z, hz⟩ : ∃ z : Int, z = (c.toNat : Int) := ⟨_, rfl⟩
  rw [← hz]
  have HZ := Aside0.mk hz
  clear hz
  go_enter Tryz.func73, Tryz.ntmps73
  go_wp2_with fail
  refine hc.mono ?_
  rintro e w1 ⟨rfl, hBA, hb1, hs1⟩
  obtain ⟨hB, v, hbk, hown, hne⟩ := hBA
  have hl : (Lib.byteCells l).length = l.length := by simp [Lib.byteCells]
  rw [hl, ← nums_bytes] at hown
  have HO := Aside0.mk hown
  have HK := Aside0.mk hbk
  have c1 : w1.cell? ⟨b, 1, none⟩ = some v := (blk_cell hbk 1).trans rfl
  have hbase : B ≤ w1.heap.size := by omega
  have hll : ((l.map fun c => (c.toNat : Int)).length + 1) * 1 ≤ 140737488355328 := by simp; omega
  have HNE := Aside0.mk hne
  clear hown hbk hl hne
  go_wp2_with (refine gate_builtin (b := .append) rfl ?_; go_must ((refine print_append_num (w0 := w1) B rfl (.tmp 11) (.tmp 13) 23 5 .u8 1 rfl Tryz.underlying23 u8_info (by decide) v (l.map fun c => (c.toNat : Int)) z rfl rfl (by simpa using HO.out) (Below.refl _ _) hbase hll ?_; intro v1 w3 hown hb3 hg hat; obtain ⟨A1, cp1, rfl⟩ := own_slice hown; have hbk3 := blk_grown HK.out hg (fun h => HNE.out h.symm); have k1 := (blk_cell hbk3 1).trans rfl; have kf := blk_frozen hbk3 1; have HK3 := Aside0.mk hbk3; clear hbk3)))
  go_ret
  have hz := HZ.out
  subst hz
  have hown' : w3.ownsRow B 5 1 (.slice A1 (List.map (fun c : UInt8 => (c.toNat : Int)) l ++ [(c.toNat : Int)]).length cp1) (Lib.byteCells (l ++ [c])).length (Lib.byteCells (l ++ [c])) := by
    have h1 := hown
    rw [show (List.map (fun c : UInt8 => (c.toNat : Int)) l ++ [(c.toNat : Int)]) = (l ++ [c]).map (fun c : UInt8 => (c.toNat : Int)) by simp, nums_bytes] at h1
    simpa [Lib.byteCells] using h1
  have hne3 : (Value.slice A1 (List.map (fun c : UInt8 => (c.toNat : Int)) l ++ [(c.toNat : Int)]).length cp1).ownBlock ≠ some b := by
    rcases hat with hat | ⟨b', hat, hlt⟩
    · rw [hat]; exact HNE.out
    · rw [hat]
      intro h
      have := blk_lt HK.out
      simp at h
      omega
  refine ⟨rfl, .inr ⟨hB, _, ?_, own_setCell hown' (fun h => hne3 h.symm) _, hne3⟩, ?_, ?_⟩
  · rw [blk_set HK3.out 1 _]
    simp
  · exact (hb1.trans hb3).setCell (p := ⟨b, 1, none⟩) hB _
  · have := hg.size
    simp only [World.setCell, Array.size_modify]
    omega
theorem builder_fresh (B : Nat) (w : World) (b : Nat) (hB : B ≤ b) (hb : w.heap[b]? = some (.cells #[.pointer none, .slice none 0 0] 96 (0, 0))) : Lib.IsBuilder 96 5 B b (Lib.byteCells []) w :=
  .inl ⟨hB, _, hb, own_nil _ _ _ _, by simp [Value.ownBlock]⟩
end Go.Proofs.YtdndmbcejoodpaaGreatDoor
