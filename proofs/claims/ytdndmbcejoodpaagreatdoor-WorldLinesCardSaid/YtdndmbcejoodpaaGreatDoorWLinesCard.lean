/- WorldLines: for every event, every line and every out the law returns true and each argument reads behind the call as it read before; and its card, tied to the program's text. CONDITION: the listed library variables begin as the program's text lays them (tied). -/
import Derived.Test.YtdndmbcejoodpaaGreatDoorWOpen
import Derived.Test.YtdndmbcejoodpaaGreatDoorCards
import Derived.Test.YtdndmbcejoodpaaGreatDoorTie
import Derived.ShutString
import Derived.Lay
import Derived.SevenTiedAt
import Derived.Stop.LaidErr
import Derived.Deep.DeepWitnessRowRef
namespace Go.Proofs.YtdndmbcejoodpaaGreatDoor.worldLines
open Go.Proofs.YtdndmbcejoodpaaGreatDoor Go.Proofs.YtdndmbcejoodpaaGreatDoorW.PrintWords
open Go.ChangeShapes Go.WideShapes Go.ChangeAt Go.RowKit
open Go.ChangeMaps (open_string shut_string)
set_option linter.unusedVariables false
theorem laidOut : laidOutB Tryz.prog = true := by kernel_rfl
theorem own : ownKnob Tryz.prog.godebug = none := by kernel_rfl
theorem gTab : Tryz.prog.globalNamed "internal/strconv.uint64pow10" = some 3 := by kernel_rfl
theorem gTabType : (Tryz.prog.globals[3]?).map (·.type) = some 199 := by kernel_rfl
theorem cellsA : Tryz.prog.cellsOf 199 = 20 := by kernel_rfl
theorem cellsE : Tryz.prog.cellsOf 118 = 1 := by kernel_rfl
theorem noHandles (Q : List (String × DataW Unit)) (W : World) (h0 : (Q.filter fun x => x.2.handleName?.isSome) = []) (h : laidMetH Tryz.prog Q W) : laidMet Tryz.prog Q W := by
  unfold laidMetH at h
  rw [h0] at h
  exact h
/-- What the row's list gives. -/
theorem table {W : World} (h : laidMetH Tryz.prog Rows.worldLinesRow.laid W) : Lib.TabIs Tryz.prog W "internal/strconv.uint64pow10" .u64 Lib.pow10Tab :=
  Lib.tabIs_of_head (n := 20) gTab gTabType Tryz.underlying199 Tryz.underlying118 cellsE cellsA (noHandles _ _ (by kernel_rfl) h).tail.tail
theorem mxOf {W : World} (h : W.ShapedOpen Tryz.prog) : ∃ m, W.cell? ⟨0, 0, none⟩ = some (.int .i64 m) := Tryz.laysM146.s1_3 W h
theorem gS : Tryz.prog.globalNamed "strconv.ErrSyntax" = some 1 := by kernel_rfl
theorem gR : Tryz.prog.globalNamed "strconv.ErrRange" = some 2 := by kernel_rfl
theorem gSType : (Tryz.prog.globals[1]?).map (·.type) = some 61 := by kernel_rfl
theorem gRType : (Tryz.prog.globals[2]?).map (·.type) = some 61 := by kernel_rfl
theorem star : "*" ++ "errors.errorString" = "*errors.errorString" := by decide
theorem rowErr (u : TypeId) (h : Tryz.prog.typeName? 3 u = some "*errors.errorString") : u = 214 :=
  typeName_ptr_named (nm := "errors.errorString") (by rw [star]; kernel_rfl) (by kernel_rfl) (by decide) u (by rw [star]; exact h)
theorem cells_err : Tryz.prog.cellsOf 216 = 1 := by kernel_rfl
theorem laidE {W : World} (h : laidMetH Tryz.prog Rows.worldLinesRow.laid W) (hs : W.ShapedOpen Tryz.prog) : LaidE W := by
  have h' := noHandles _ _ (by kernel_rfl) h
  obtain ⟨a1, s1, hv1, _⟩ := laid_sentinel h'.tail.tail.tail.tail gR gRType Tryz.underlying61 rowErr Tryz.underlying214 Tryz.underlying216 rfl rfl Tryz.underlying9 cells_err cells_string
  obtain ⟨a2, s2, hv2, _⟩ := laid_sentinel h'.tail.tail.tail.tail.tail gS gSType Tryz.underlying61 rowErr Tryz.underlying214 Tryz.underlying216 rfl rfl Tryz.underlying9 cells_err cells_string
  exact ⟨⟨table h, mxOf hs⟩, ⟨_, _, hv2⟩, ⟨_, _, hv1⟩⟩
set_option maxRecDepth 100000 in
theorem contract (H : Type) (enc : TypeId × Value → H) (W : World) (base : Nat) (args : Array Value) (ds gs : List (DataW H)) (before : List MemPlace)
    (hval : ∀ (j : Nat) t v, Tryz.f4.params[j]? = some t → args[j]? = some v → Value.okWide Tryz.prog W .any base t v)
    (hW : DataW.Whole enc Tryz.prog Tryz.f4.params.toList Rows.worldLinesSpec.vars false W args.toList ds gs before)
    (hL : laidMetH Tryz.prog Rows.worldLinesRow.laid W) (hSh : W.ShapedOpen Tryz.prog) :
    Calls Tryz.prog 4 args W fun e W' => ∃ v, e = .returned v ∧ Rows.worldLinesSpec.post enc Tryz.prog Tryz.f4 false true false false W args v W' := by
  have hW' := hW
  obtain ⟨p, q, hA0, hV, rfl, hfz, hnd⟩ := hW
  have hA : DataW.TrodAll enc Tryz.prog W 0 (fun _ => true) true Tryz.f4.params.toList args.toList ds p := hA0
  rw [Tryz.params4] at hA hval
  obtain ⟨v0, vs0, d0, ds0, p0, q0, hargs, rfl, rfl, h0, r0⟩ := trodAll_cons hA
  obtain ⟨v1, vs1, d1, ds1, p1, q1, rfl, rfl, rfl, h1, r1⟩ := trodAll_cons r0
  obtain ⟨v2, vs2, d2, ds2, p2, q2, rfl, rfl, rfl, h2, r2⟩ := trodAll_cons r1
  obtain ⟨rfl, rfl, rfl⟩ := trodAll_nil r2
  obtain rfl : args = #[v0, v1, v2] := by cases args; simp_all
  obtain ⟨rfl, rfl⟩ := trodVars_none hV
  have lt0 : ∀ x ∈ p0, x.block < W.heap.size := by obtain ⟨m, hm⟩ := h0; exact DataW.trod_lt m _ _ _ hm
  have lt2 : ∀ x ∈ p2, x.block < W.heap.size := by obtain ⟨m, hm⟩ := h2; exact DataW.trod_lt m _ _ _ hm
  obtain ⟨k, wt, f, t, u, A, m, c, l, n, he0, HE⟩ := open_event (hval 0 25 v0 rfl rfl) h0
  obtain ⟨s, rfl, rfl, rfl, y1⟩ := open_string Tryz.underlying9 (hval 1 9 v1 rfl rfl) h1
  obtain ⟨k2, t2, A2, m2, c2, l2, nm, sp, fr, he2, HO⟩ := open_out (hval 2 36 v2 rfl rfl) h2
  clear hA0
  have hb : ba s.data.toList = s := rfl
  have hc := lines_calls k wt f t u A m c l n s.data.toList k2 t2 A2 m2 c2 l2 nm sp fr W (laidE hL hSh) HE HO
  rw [hb, ← he0, ← he2] at hc
  refine hc.mono fun e W' ⟨he, bel⟩ => ?_
  subst he
  exact ⟨_, rfl, _, _, _, [], _, [], hW', trodAll_mk1 (shut_bool Tryz.underlying4 _), (trodAll_cons_mk (Below.trod laidOut (by kernel_rfl) (of_decide_eq_true (by kernel_rfl)) h0 bel lt0) (trodAll_cons_mk (shut_string Tryz.underlying9 y1) (trodAll_cons_mk (Below.trod laidOut (by kernel_rfl) (of_decide_eq_true (by kernel_rfl)) h2 bel lt2) trodAll_mk0))), rfl, bel.frame _, fun h => by cases h⟩
theorem laid_met (os : Os) : laidMetH Tryz.prog Rows.worldLinesRow.laid ((World.laidAll Tryz.prog os Rows.worldLinesRow.laid).forCall (fun _ _ => 0) ⟨#[], #[.agg #[.int .i64 0, .int .i64 0, .int .u32 0, .int .u32 0, .int .i64 0, .slice none 0 0, .int .i64 0], .string ByteArray.empty, .agg #[.int .i64 0, .int .u32 0, .slice none 0 0, .string ByteArray.empty, .int .i64 0, .int .i64 0]], []⟩).memory := by
  rw [MakeChecks.laidMetH_plain _ _ _ (by kernel_rfl)]
  exact laidMet_laidAll _ (by kernel_rfl) (by kernel_rfl)
set_option maxRecDepth 100000 in
theorem liftedFull (os : Os) (started : os.Started) (H : Type) (enc : TypeId × Value → H) (F : Stop.Interp) :
    ReturnsInHanded {} Tryz.checked os 4 .any ((OpenSpec.ofChange Rows.worldLinesSpec).preRow enc Tryz.prog Tryz.f4 Rows.worldLinesRow.domain false Rows.worldLinesRow.laid) (((OpenSpec.ofChange Rows.worldLinesSpec).at F).post enc Tryz.prog Tryz.f4 false true false false) := by
  refine returnsInHanded_of_row (C := Tryz.checked) (s := OpenSpec.ofChange Rows.worldLinesSpec) own started (by kernel_rfl) Tryz.func4
    (witness_row_atRef (enc := enc) (C := Tryz.checked) false (World.laidAll Tryz.prog os Rows.worldLinesRow.laid) #[.agg #[.int .i64 0, .int .i64 0, .int .u32 0, .int .u32 0, .int .i64 0, .slice none 0 0, .int .i64 0], .string ByteArray.empty, .agg #[.int .i64 0, .int .u32 0, .slice none 0 0, .string ByteArray.empty, .int .i64 0, .int .i64 0]] (World.laidAll_os _ _ _) (by kernel_rfl) (by kernel_rfl) (by kernel_rfl)
      (OpenSpec.preRow_of_B rfl 8 (by kernel_rfl) (by kernel_rfl) (laid_met os))) ?_
  intro W base args ds gs before hval hW _ hc _ hL hSh _
  exact contract H enc W base args ds gs before hval hW hL hSh
theorem saidFull : Rows.WorldLinesSaid :=
  OpenClaim.holds_of_cond 4 Tryz.f4 rfl rfl rfl rfl rfl rfl rfl ⟨rfl, rfl, rfl, rfl, rfl⟩ rfl rfl rfl rfl rfl (by kernel_rfl) Tryz.func4 (by kernel_rfl)
    (of_decide_eq_true (by kernel_rfl)) (by unfold Func.isWrapper; first | (rw [if_pos (by decide +kernel)]; kernel_rfl) | (rw [if_neg (by decide +kernel)]; exact ⟨rfl, rfl⟩))
    (fun os started H enc _ F => by rw [OpenClaim.pre_eq_preRow]; exact liftedFull os started H enc F)
theorem plain (f : FuncId) (fn : Func) (hf : Tryz.pinned.checked.prog.funcNamed "foliot/foliotlaw20.WorldLines" = some f) (hfn : Tryz.pinned.checked.prog.funcs[f]? = some fn) :
    true = Tryz.pinned.checked.prog.looks [] ∧ ∀ (j : Nat) t, fn.params[j]? = some t → Tryz.pinned.checked.prog.wantsStandIn t = false := by
  obtain rfl : f = 4 := Option.some.inj ((show Tryz.prog.funcNamed "foliot/foliotlaw20.WorldLines" = some 4 by kernel_rfl).symm.trans hf) |>.symm
  obtain rfl : fn = Tryz.f4 := (Option.some.inj (Tryz.func4.symm.trans hfn)).symm
  refine ⟨by kernel_rfl, fun j t ht => ?_⟩
  rw [Tryz.params4] at ht
  have hm : t ∈ [25, 9, 36] := by simpa using Array.mem_of_getElem? ht
  have hall : ([25, 9, 36].all fun u => !Tryz.prog.wantsStandIn u) = true := by kernel_rfl
  exact (show Tryz.prog.wantsStandIn t = false by simpa using List.all_eq_true.1 hall t hm)
theorem cardFull : Rows.WorldLinesCardSaid :=
  Claim7.holds_tied_plain_at .later [] _ _ _ _ saidFull (fun _ h => by cases h) (by kernel_rfl) (fun _ h => by cases h) worldLines_row_tie rfl ⟨rfl, rfl⟩ (by kernel_rfl) rfl plain (by kernel_rfl)
end Go.Proofs.YtdndmbcejoodpaaGreatDoor.worldLines
namespace Go.Proofs.YtdndmbcejoodpaaGreatDoor
theorem worldLines_holds : Rows.WorldLinesCardSaid := worldLines.cardFull
end Go.Proofs.YtdndmbcejoodpaaGreatDoor
#print axioms Go.Proofs.YtdndmbcejoodpaaGreatDoor.worldLines_holds
