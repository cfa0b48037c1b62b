/- The walk of world.EncodeEvent. -/
import Derived.Test.YtdndmbcejoodpaaGreatDoorWFormed
import Derived.Test.YtdndmbcejoodpaaGreatDoorCPrint
import Derived.Test.YtdndmbcejoodpaaGreatDoorQTail
import Derived.Lib.ItoaLen
namespace Go.Proofs.YtdndmbcejoodpaaGreatDoor
open Go.RowKit Go.Proofs.YtdndmbcejoodpaaGreatDoorW.PrintWords Go.Proofs.YtdndmbcejoodpaaGreatDoorW.PrintLast Go.Proofs.YtdndmbcejoodpaaGreatDoorW.PrintMore
set_option linter.unusedVariables false
set_option linter.unusedSimpArgs false
section
variable {P : Program} {ops : Array Oper} {rest : List Oper} {o : Oper} {a : Act} {Q : Exit → Act → World → Prop}
/-- append(v, ys...), ys a literal just built. -/
theorem append_lits {w0 W : World} (base : Nat) (hgd : o.guard = none) (s x : Operand) (t e : TypeId) (z : Value) (bytes : Nat)
    (ho : o.op = .call { callee := .builtin .append, args := #[s, x], argTypes := #[t, t] })
    (ht : P.underlying t = some (.slice e)) (hinfo : (P.info? e).map (fun i => (i.zero, i.size, i.bytes)) = some (some z, 1, bytes)) (hz : z.cells.size = 1) (hb0 : 0 < bytes)
    (v : Value) (n : Nat) (xs ys : List Value) (hs : a.eval s = v) (hx : a.eval x = .slice (some ⟨W.heap.size, 0, none⟩) ys.length ys.length) (h1 : ∀ u ∈ ys, u.oneCell' = true)
    (HO : W.ownsRow base e 1 v n xs) (HB : Below base w0 W) (hbase : base ≤ W.heap.size) (hl : (n + ys.length) * bytes ≤ 140737488355328)
    (h : ∀ v1 w1, w1.ownsRow base e 1 v1 (n + ys.length) (xs ++ ys) → Below base w0 w1 → W.grownBy w1 v.ownBlock → (v1.ownBlock = v.ownBlock ∨ ∃ b, v1.ownBlock = some b ∧ W.heap.size ≤ b) → wpList P ops Q rest (a.put o.dst v1) w1) :
    wpList P ops Q (o :: rest) a (W.alloc (.cells ys.toArray e)) := by
  obtain ⟨i0, hi, hzz⟩ := Option.map_eq_some_iff.1 hinfo
  simp only [Prod.mk.injEq] at hzz
  obtain ⟨hz0, hz1, hz2⟩ := hzz
  have hlen : n + ys.length ≤ 140737488355328 := Nat.le_trans (Nat.le_mul_of_pos_right _ hb0) hl
  refine wpList_append_own_at (W.alloc (.cells ys.toArray e)) hgd s x t ho base e i0 z 1 bytes ht hi hz0 hz1 hz2 hz (by decide) v n xs hs (HO.alloc _) ⟨W.heap.size, 0, none⟩ ys.length ys.length ys hx (by simp)
    (by simpa using World.news_of_block (cs := ys.toArray) (t := e) (fr := (0, 0)) (heap_alloc_new W (.cells ys.toArray e))) h1 (by simp only [maxLen]; omega) hl (by simp; omega) ?_
  intro v1 w1 hown hg _ hat
  refine h v1 w1 hown ((HB.alloc hbase _).grown hg (by simp; omega) (own_base HO)) (World.grownBy.trans (World.grownBy_alloc W _ _) hg) ?_
  rcases hat with hat | hat
  · exact .inl hat
  · exact .inr ⟨_, hat, by simp⟩
end
/-- A literal is a row of its own. -/
theorem own_lits (W : World) (base : Nat) (e : TypeId) (ys : List Value) (hb : base ≤ W.heap.size) (hm : ys.length ≤ 9223372036854775807) : (W.alloc (.cells ys.toArray e)).ownsRow base e 1 (.slice (some ⟨W.heap.size, 0, none⟩) ys.length ys.length) ys.length ys :=
  ⟨by simp, .inr ⟨W.heap.size, ys.length, ys.toArray, rfl, hb, heap_alloc_new W _, Nat.le_refl _, by simpa [maxLen] using hm, by simp, by simp⟩⟩
/-- A block that stays as it is while memory is made; and a row that is owned. -/
structure Held (w : World) (B g : Nat) (ob : Obj) (w' : World) : Prop where
  below : Below B w w'
  blk : w'.heap[g]? = some ob
  size : B ≤ w'.heap.size
theorem Held.next {w w' w'' : World} {B g : Nat} {ob : Obj} (h : Held w B g ob w') (hb : Below w'.heap.size w' w'') : Held w B g ob w'' :=
  ⟨h.below.trans (hb.mono h.size), (hb.block g (blk_lt h.blk)).trans h.blk, Nat.le_trans h.size hb.size⟩
theorem Held.drew {w w' : World} {B g : Nat} {ob : Obj} (h : Held w B g ob w') : Held w B g ob w'.drew := h.next (Below.refl _ _).drew
theorem Held.cell {w w' : World} {B g : Nat} {cs : Array Value} {t : TypeId} (h : Held w B g (.cells cs t (0, 0)) w') (i : Nat) : w'.cell? ⟨g, i, none⟩ = cs[i]? := blk_cell h.blk i
structure HeldRow (w : World) (B g : Nat) (ob : Obj) (v : Value) (xs : List Value) (w' : World) : Prop where
  held : Held w B g ob w'
  own : w'.ownsRow B 9 1 v xs.length xs
theorem HeldRow.next {w w' w'' : World} {B g : Nat} {ob : Obj} {v : Value} {xs : List Value} (h : HeldRow w B g ob v xs w') (hb : Below w'.heap.size w' w'') : HeldRow w B g ob v xs w'' :=
  ⟨h.held.next hb, pw_own_below h.own hb⟩
theorem HeldRow.drew {w w' : World} {B g : Nat} {ob : Obj} {v : Value} {xs : List Value} (h : HeldRow w B g ob v xs w') : HeldRow w B g ob v xs w'.drew := h.next (Below.refl _ _).drew
def tailP (kind frm dst unit : Int) (l : List Int) (n : Int) : List (List UInt8) :=
  if kind = 2 then [printP frm, printP dst, dataP l] else if kind = 3 then [Lib.itoa unit, dataP l] else if kind = 4 then [Lib.itoa unit, Lib.itoa n] else if kind = 5 ∨ kind = 6 ∨ kind = 8 then [Lib.itoa n] else []
def encL (kind wait frm dst unit : Int) (l : List Int) (n : Int) : List UInt8 := glue 32 (wordP kind :: Lib.itoa wait :: tailP kind frm dst unit l n)
/-- P20.4. -/
def encP (kind wait frm dst unit : Int) (l : List Int) (n : Int) : List UInt8 × Int :=
  if formP kind wait unit n l.length = 0 then (encL kind wait frm dst unit l n, 0) else ([], formP kind wait unit n l.length)
def ba (l : List UInt8) : ByteArray := ⟨l.toArray⟩
theorem ba_list (l : List UInt8) : (ba l).data.toList = l := rfl
structure EvOk (w : World) (wait frm dst unit : Int) (A : Option Addr) (m c : Nat) (l : List Int) (n : Int) : Prop where
  laid : Laid w
  reads : Kd.C (Kd.int .u8) w A m l
  bytes : ∀ b ∈ l, 0 ≤ b ∧ b < 256
  small : m ≤ 1048576
  wait0 : -9223372036854775808 ≤ wait ∧ wait ≤ 9223372036854775807
  frm0 : 0 ≤ frm ∧ frm < 4294967296
  dst0 : 0 ≤ dst ∧ dst < 4294967296
  unit0 : -9223372036854775808 ≤ unit ∧ unit ≤ 9223372036854775807
  n0 : -9223372036854775808 ≤ n ∧ n ≤ 9223372036854775807
theorem itoa_len (n : Int) (h : -9223372036854775808 ≤ n ∧ n ≤ 9223372036854775807) : (Lib.itoa n).length ≤ 21 := Lib.itoa_length_le n h.1 h.2
theorem glue_len (c : UInt8) : ∀ ps : List (List UInt8), (glue c ps).length ≤ (ps.map fun p => p.length + 1).sum := by
  intro ps
  match ps with
  | [] => simp [glue]
  | [p] => simp [glue]
  | p :: q :: r =>
    have := glue_len c (q :: r)
    simp only [glue, List.map_cons, List.sum_cons, List.length_append, List.length_cons] at this ⊢
    omega
theorem dataP_len (l : List Int) : (dataP l).length ≤ 2 * l.length + 1 := by
  unfold dataP
  split
  · simp
  · rw [hexL_len]; omega
theorem wordP_len (k : Int) : (wordP k).length ≤ 6 := by unfold wordP; (repeat' split) <;> decide
set_option maxRecDepth 100000 in
set_option maxHeartbeats 2000000 in
theorem enc1 (wait frm dst unit : Int) (A : Option Addr) (m c : Nat) (l : List Int) (n : Int) (w : World) (HE : EvOk w wait frm dst unit A m c l n) (hf : formP 1 wait unit n m = 0) :
    Calls Tryz.prog 10 #[evV 1 wait frm dst unit A m c n] w fun e w' => e = .returned (.tuple #[.string (ba (encL 1 wait frm dst unit l n)), .int .i64 0]) ∧ Below w.heap.size w w' := by
  have hform := fun W => formed_calls 1 wait frm dst unit A m c n W
  rw [hf] at hform
  clear hf
  obtain ⟨X, hX⟩ : ∃ X, X = ba (encL 1 wait frm dst unit l n) := ⟨_, rfl⟩
  rw [← hX]
  have HX := Aside0.mk hX
  have HEA := Aside0.mk HE
  clear hX HE
  unfold evV at hform ⊢
  obtain ⟨cs, hcs⟩ : ∃ cs : Array Value, cs = #[.int .i64 1, .int .i64 wait, .int .u32 frm, .int .u32 dst, .int .i64 unit, .slice A m c, .int .i64 n] := ⟨_, rfl⟩
  have HCS := Aside0.mk hcs
  clear hcs
  go_enter Tryz.func10, Tryz.ntmps10
  go_wp2_with fail
  have h0 : Held w w.heap.size w.heap.size (.cells cs 25 (0, 0)) (w.alloc (.cells #[.int .i64 1, .int .i64 wait, .int .u32 frm, .int .u32 dst, .int .i64 unit, .slice A m c, .int .i64 n] 25)) :=
    ⟨below_alloc (Below.refl _ _) _, by rw [HCS.out]; exact heap_alloc_new w _, by simp⟩
  refine (hform _).mono ?_
  rintro e w1 ⟨rfl, hb1⟩
  have h1 := h0.next hb1
  clear h0 hb1 hform
  have HH := Aside0.mk h1
  clear h1
  go_wp2_with fail
  have hkd : ∀ x : InD (Held w w.heap.size w.heap.size (.cells cs 25 (0, 0))), x.val.cell? ⟨w.heap.size, 0, none⟩ = some (.int .i64 1) := fun x => (x.ok.cell 0).trans (by rw [HCS.out]; rfl)
  have hwt : ∀ x : InD (Held w w.heap.size w.heap.size (.cells cs 25 (0, 0))), x.val.cell? ⟨w.heap.size, 1, none⟩ = some (.int .i64 wait) := fun x => (x.ok.cell 1).trans (by rw [HCS.out]; rfl)
  have cw : ∀ x : InD (Held w w.heap.size w.heap.size (.cells cs 25 (0, 0))), Calls Tryz.prog 25 #[.int .i64 1] x.val fun e w'' => e = .returned (.string (ba (wordP 1))) ∧ ∃ y : InD (Held w w.heap.size w.heap.size (.cells cs 25 (0, 0))), w'' = y.val :=
    fun x => calls_in ((word_calls 1 x.val (by decide) (by decide)).mono fun _ _ ⟨he, hw⟩ => ⟨he, by rw [hw]; exact x.ok⟩)
  have ci : ∀ x : InD (Held w w.heap.size w.heap.size (.cells cs 25 (0, 0))), Calls Tryz.prog 26 #[.int .i64 wait] x.val fun e w'' => e = .returned (.string (ba (Lib.itoa wait))) ∧ ∃ y : InD (Held w w.heap.size w.heap.size (.cells cs 25 (0, 0))), w'' = y.val :=
    fun x => calls_in ((itoa_calls wait HEA.out.wait0.1 HEA.out.wait0.2 x.val (HEA.out.laid.below x.ok.below (Nat.le_refl _))).mono fun _ _ ⟨he, hb⟩ => ⟨he, x.ok.next hb⟩)
  obtain ⟨sw, hsw⟩ : ∃ s, s = ba (wordP 1) := ⟨_, rfl⟩
  obtain ⟨si, hsi⟩ : ∃ s, s = ba (Lib.itoa wait) := ⟨_, rfl⟩
  rw [← hsw] at cw
  rw [← hsi] at ci
  have HS := Aside0.mk (And.intro hsw hsi)
  clear hsw hsi
  haveI : Nonempty (InD (Held w w.heap.size w.heap.size (.cells cs 25 (0, 0)))) := ⟨⟨_, HH.out.drew⟩⟩
  refine wp_region_class_tail (Held w w.heap.size w.heap.size (.cells cs 25 (0, 0))) 6 (by kernel_rfl) (by kernel_rfl) HH.out.drew ?_
  simp only [List.take, List.drop]
  repeat (go_big_quiet_step (first | with_reducible exact cw _ | with_reducible exact ci _))
  refine wpQuiet_nil ?_
  clear hkd hwt cw ci HH
  intro x
  obtain ⟨W, hW⟩ : ∃ W, W = x.val := ⟨_, rfl⟩
  have hWH := x.ok
  rw [← hW] at hWH ⊢
  clear hW x this
  have k0 : W.cell? ⟨w.heap.size, 0, none⟩ = some (.int .i64 1) := (hWH.cell 0).trans (by rw [HCS.out]; rfl)
  have k6 : W.cell? ⟨w.heap.size, 6, none⟩ = some (.int .i64 n) := (hWH.cell 6).trans (by rw [HCS.out]; rfl)
  have hne : ¬ w.heap.size = W.heap.size := fun h => World.new_ne W _ k0 h.symm
  have hne' : ¬ W.heap.size = w.heap.size := World.new_ne W _ k0
  have HO := Aside0.mk (own_lits W w.heap.size 9 [.string sw, .string si] hWH.size (by simp))
  have HB := Aside0.mk (show Below w.heap.size w (W.alloc (.cells #[.string sw, .string si] 9)) from hWH.below.alloc hWH.size _)
  have HWH := Aside0.mk (show Held w w.heap.size w.heap.size (.cells cs 25 (0, 0)) (W.alloc (.cells #[.string sw, .string si] 9)) from hWH.next (below_alloc (Below.refl _ _) _))
  clear hWH
  have q0 : (W.alloc (.cells #[.string sw, .string si] 9)).cell? ⟨w.heap.size, 0, none⟩ = some (.int .i64 1) := (HWH.out.cell 0).trans (by rw [HCS.out]; rfl)
  have q6 : (W.alloc (.cells #[.string sw, .string si] 9)).cell? ⟨w.heap.size, 6, none⟩ = some (.int .i64 n) := (HWH.out.cell 6).trans (by rw [HCS.out]; rfl)
  go_wp2_with fail
  have hXe : (⟨(glue 32 ([sw, si].map (·.data.toList))).toArray⟩ : ByteArray) = X := by rw [HX.out, HS.out.1, HS.out.2]; rfl
  have hJ := join_calls (xs := [sw, si]) (c := 32) HO.out (by
    have h1 := glue_len 32 ([sw, si].map (·.data.toList))
    have h2 := itoa_len wait HEA.out.wait0
    have h3 := wordP_len 1
    rw [HS.out.1, HS.out.2] at h1 ⊢
    simp only [List.map_cons, List.map_nil, List.sum_cons, List.sum_nil, ba_list] at h1 ⊢
    omega) (by simp)
  rw [hXe] at hJ
  clear hXe
  refine hJ.mono ?_
  rintro e w9 ⟨rfl, hb9⟩
  go_wp2_with fail
  go_ret2
  exact ⟨rfl, HB.out.trans (hb9.mono HB.out.size)⟩
set_option maxRecDepth 100000 in
set_option maxHeartbeats 2000000 in
theorem enc2 (wait frm dst unit : Int) (A : Option Addr) (m c : Nat) (l : List Int) (n : Int) (w : World) (HE : EvOk w wait frm dst unit A m c l n) (hf : formP 2 wait unit n m = 0) :
    Calls Tryz.prog 10 #[evV 2 wait frm dst unit A m c n] w fun e w' => e = .returned (.tuple #[.string (ba (encL 2 wait frm dst unit l n)), .int .i64 0]) ∧ Below w.heap.size w w' := by
  have hform := fun W => formed_calls 2 wait frm dst unit A m c n W
  rw [hf] at hform
  clear hf
  obtain ⟨X, hX⟩ : ∃ X, X = ba (encL 2 wait frm dst unit l n) := ⟨_, rfl⟩
  rw [← hX]
  have HX := Aside0.mk hX
  have HEA := Aside0.mk HE
  clear hX HE
  unfold evV at hform ⊢
  obtain ⟨cs, hcs⟩ : ∃ cs : Array Value, cs = #[.int .i64 2, .int .i64 wait, .int .u32 frm, .int .u32 dst, .int .i64 unit, .slice A m c, .int .i64 n] := ⟨_, rfl⟩
  have HCS := Aside0.mk hcs
  clear hcs
  go_enter Tryz.func10, Tryz.ntmps10
  go_wp2_with fail
  have h0 : Held w w.heap.size w.heap.size (.cells cs 25 (0, 0)) (w.alloc (.cells #[.int .i64 2, .int .i64 wait, .int .u32 frm, .int .u32 dst, .int .i64 unit, .slice A m c, .int .i64 n] 25)) :=
    ⟨below_alloc (Below.refl _ _) _, by rw [HCS.out]; exact heap_alloc_new w _, by simp⟩
  refine (hform _).mono ?_
  rintro e w1 ⟨rfl, hb1⟩
  have h1 := h0.next hb1
  clear h0 hb1 hform
  have HH := Aside0.mk h1
  clear h1
  go_wp2_with fail
  have hkd : ∀ x : InD (Held w w.heap.size w.heap.size (.cells cs 25 (0, 0))), x.val.cell? ⟨w.heap.size, 0, none⟩ = some (.int .i64 2) := fun x => (x.ok.cell 0).trans (by rw [HCS.out]; rfl)
  have hwt : ∀ x : InD (Held w w.heap.size w.heap.size (.cells cs 25 (0, 0))), x.val.cell? ⟨w.heap.size, 1, none⟩ = some (.int .i64 wait) := fun x => (x.ok.cell 1).trans (by rw [HCS.out]; rfl)
  have cw : ∀ x : InD (Held w w.heap.size w.heap.size (.cells cs 25 (0, 0))), Calls Tryz.prog 25 #[.int .i64 2] x.val fun e w'' => e = .returned (.string (ba (wordP 2))) ∧ ∃ y : InD (Held w w.heap.size w.heap.size (.cells cs 25 (0, 0))), w'' = y.val :=
    fun x => calls_in ((word_calls 2 x.val (by decide) (by decide)).mono fun _ _ ⟨he, hw⟩ => ⟨he, by rw [hw]; exact x.ok⟩)
  have ci : ∀ x : InD (Held w w.heap.size w.heap.size (.cells cs 25 (0, 0))), Calls Tryz.prog 26 #[.int .i64 wait] x.val fun e w'' => e = .returned (.string (ba (Lib.itoa wait))) ∧ ∃ y : InD (Held w w.heap.size w.heap.size (.cells cs 25 (0, 0))), w'' = y.val :=
    fun x => calls_in ((itoa_calls wait HEA.out.wait0.1 HEA.out.wait0.2 x.val (HEA.out.laid.below x.ok.below (Nat.le_refl _))).mono fun _ _ ⟨he, hb⟩ => ⟨he, x.ok.next hb⟩)
  obtain ⟨sw, hsw⟩ : ∃ s, s = ba (wordP 2) := ⟨_, rfl⟩
  obtain ⟨si, hsi⟩ : ∃ s, s = ba (Lib.itoa wait) := ⟨_, rfl⟩
  rw [← hsw] at cw
  rw [← hsi] at ci
  have HS := Aside0.mk (And.intro hsw hsi)
  clear hsw hsi
  haveI : Nonempty (InD (Held w w.heap.size w.heap.size (.cells cs 25 (0, 0)))) := ⟨⟨_, HH.out.drew⟩⟩
  refine wp_region_class_tail (Held w w.heap.size w.heap.size (.cells cs 25 (0, 0))) 6 (by kernel_rfl) (by kernel_rfl) HH.out.drew ?_
  simp only [List.take, List.drop]
  repeat (go_big_quiet_step (first | with_reducible exact cw _ | with_reducible exact ci _))
  refine wpQuiet_nil ?_
  clear hkd hwt cw ci HH
  intro x
  obtain ⟨W, hW⟩ : ∃ W, W = x.val := ⟨_, rfl⟩
  have hWH := x.ok
  rw [← hW] at hWH ⊢
  clear hW x this
  have k0 : W.cell? ⟨w.heap.size, 0, none⟩ = some (.int .i64 2) := (hWH.cell 0).trans (by rw [HCS.out]; rfl)
  have k6 : W.cell? ⟨w.heap.size, 6, none⟩ = some (.int .i64 n) := (hWH.cell 6).trans (by rw [HCS.out]; rfl)
  have hne : ¬ w.heap.size = W.heap.size := fun h => World.new_ne W _ k0 h.symm
  have hne' : ¬ W.heap.size = w.heap.size := World.new_ne W _ k0
  have HO := Aside0.mk (own_lits W w.heap.size 9 [.string sw, .string si] hWH.size (by simp))
  have HB := Aside0.mk (show Below w.heap.size w (W.alloc (.cells #[.string sw, .string si] 9)) from hWH.below.alloc hWH.size _)
  have HWH := Aside0.mk (show Held w w.heap.size w.heap.size (.cells cs 25 (0, 0)) (W.alloc (.cells #[.string sw, .string si] 9)) from hWH.next (below_alloc (Below.refl _ _) _))
  clear hWH
  have q0 : (W.alloc (.cells #[.string sw, .string si] 9)).cell? ⟨w.heap.size, 0, none⟩ = some (.int .i64 2) := (HWH.out.cell 0).trans (by rw [HCS.out]; rfl)
  have q6 : (W.alloc (.cells #[.string sw, .string si] 9)).cell? ⟨w.heap.size, 6, none⟩ = some (.int .i64 n) := (HWH.out.cell 6).trans (by rw [HCS.out]; rfl)
  go_wp2_with fail
  clear k0 k6 q0 q6 hne hne'
  haveI : Nonempty (InD (HeldRow w w.heap.size w.heap.size (.cells cs 25 (0, 0)) (.slice (some ⟨W.heap.size, 0, none⟩) 2 2) [.string sw, .string si])) := ⟨⟨_, (show HeldRow w w.heap.size w.heap.size (.cells cs 25 (0, 0)) (.slice (some ⟨W.heap.size, 0, none⟩) 2 2) [.string sw, .string si] _ from ⟨HWH.out, HO.out⟩).drew⟩⟩
  have hc2 : ∀ x : InD (HeldRow w w.heap.size w.heap.size (.cells cs 25 (0, 0)) (.slice (some ⟨W.heap.size, 0, none⟩) 2 2) [.string sw, .string si]), x.val.cell? ⟨w.heap.size, 2, none⟩ = some (.int .u32 frm) := fun x => (x.ok.held.cell 2).trans (by rw [HCS.out]; rfl)
  have hc3 : ∀ x : InD (HeldRow w w.heap.size w.heap.size (.cells cs 25 (0, 0)) (.slice (some ⟨W.heap.size, 0, none⟩) 2 2) [.string sw, .string si]), x.val.cell? ⟨w.heap.size, 3, none⟩ = some (.int .u32 dst) := fun x => (x.ok.held.cell 3).trans (by rw [HCS.out]; rfl)
  have hc5 : ∀ x : InD (HeldRow w w.heap.size w.heap.size (.cells cs 25 (0, 0)) (.slice (some ⟨W.heap.size, 0, none⟩) 2 2) [.string sw, .string si]), x.val.cell? ⟨w.heap.size, 5, none⟩ = some (.slice A m c) := fun x => (x.ok.held.cell 5).trans (by rw [HCS.out]; rfl)
  have cc0 : ∀ x : InD (HeldRow w w.heap.size w.heap.size (.cells cs 25 (0, 0)) (.slice (some ⟨W.heap.size, 0, none⟩) 2 2) [.string sw, .string si]), Calls Tryz.prog 27 #[.int .u32 frm] x.val fun e w'' => e = .returned (.string (ba (printP frm))) ∧ ∃ y : InD (HeldRow w w.heap.size w.heap.size (.cells cs 25 (0, 0)) (.slice (some ⟨W.heap.size, 0, none⟩) 2 2) [.string sw, .string si]), w'' = y.val :=
    fun x => calls_in ((printAddr_calls frm HEA.out.frm0.1 HEA.out.frm0.2 x.val (HEA.out.laid.on x.ok.held.below)).mono fun _ _ ⟨he, hb⟩ => ⟨he, x.ok.next hb⟩)
  obtain ⟨s0, hs0⟩ : ∃ s, s = ba (printP frm) := ⟨_, rfl⟩
  rw [← hs0] at cc0
  have HS0 := Aside0.mk hs0
  clear hs0
  have cc1 : ∀ x : InD (HeldRow w w.heap.size w.heap.size (.cells cs 25 (0, 0)) (.slice (some ⟨W.heap.size, 0, none⟩) 2 2) [.string sw, .string si]), Calls Tryz.prog 27 #[.int .u32 dst] x.val fun e w'' => e = .returned (.string (ba (printP dst))) ∧ ∃ y : InD (HeldRow w w.heap.size w.heap.size (.cells cs 25 (0, 0)) (.slice (some ⟨W.heap.size, 0, none⟩) 2 2) [.string sw, .string si]), w'' = y.val :=
    fun x => calls_in ((printAddr_calls dst HEA.out.dst0.1 HEA.out.dst0.2 x.val (HEA.out.laid.on x.ok.held.below)).mono fun _ _ ⟨he, hb⟩ => ⟨he, x.ok.next hb⟩)
  obtain ⟨s1, hs1⟩ : ∃ s, s = ba (printP dst) := ⟨_, rfl⟩
  rw [← hs1] at cc1
  have HS1 := Aside0.mk hs1
  clear hs1
  have cc2 : ∀ x : InD (HeldRow w w.heap.size w.heap.size (.cells cs 25 (0, 0)) (.slice (some ⟨W.heap.size, 0, none⟩) 2 2) [.string sw, .string si]), Calls Tryz.prog 28 #[.slice A m c] x.val fun e w'' => e = .returned (.string (ba (dataP l))) ∧ ∃ y : InD (HeldRow w w.heap.size w.heap.size (.cells cs 25 (0, 0)) (.slice (some ⟨W.heap.size, 0, none⟩) 2 2) [.string sw, .string si]), w'' = y.val :=
    fun x => calls_in ((data_calls A m c l x.val (Kd.C_below HEA.out.reads x.ok.held.below) HEA.out.bytes HEA.out.small).mono fun _ _ ⟨he, hb⟩ => ⟨he, x.ok.next hb⟩)
  obtain ⟨s2, hs2⟩ : ∃ s, s = ba (dataP l) := ⟨_, rfl⟩
  rw [← hs2] at cc2
  have HS2 := Aside0.mk hs2
  clear hs2
  refine wp_region_move_tail (.tmp 5) (HeldRow w w.heap.size w.heap.size (.cells cs 25 (0, 0)) (.slice (some ⟨W.heap.size, 0, none⟩) 2 2) [.string sw, .string si]) 10 rfl rfl (by kernel_rfl) (by kernel_rfl) (HeldRow.drew ⟨HWH.out, HO.out⟩) (fun _ _ _ h => h) rfl ?_
  simp only [List.take, List.drop, Act.put, List.setIfInBounds_toArray, List.set_cons_succ, List.set_cons_zero, Nat.reduceSub]
  repeat (go_big_quiet_step (first | with_reducible exact cc0 _ | with_reducible exact cc1 _ | with_reducible exact cc2 _))
  refine wpQuiet_nil ?_
  clear hc2 hc3 hc5 cc0 cc1 cc2 HO HB HWH
  intro x
  obtain ⟨W2, hW2⟩ : ∃ W, W = x.val := ⟨_, rfl⟩
  have hWH := x.ok
  rw [← hW2] at hWH ⊢
  clear hW2 x this
  have HO7 := Aside0.mk hWH.own
  have HB7 := Aside0.mk hWH.held.below
  have hsz := hWH.held.size
  clear hWH
  go_wp2_with (refine gate_builtin (b := .append) rfl ?_; go_must ((refine append_lits (w0 := w) w.heap.size rfl (.tmp 22) (.tmp 32) 44 9 (.string ⟨#[]⟩) 16 rfl Tryz.underlying44 str_info rfl (by decide) _ 2 [.string sw, .string si] [.string s0, .string s1, .string s2] rfl rfl (by intro u hu; simp only [List.mem_cons, List.mem_nil_iff, or_false] at hu; rcases hu with rfl | rfl | rfl <;> rfl) HO7.out HB7.out hsz (by simp) ?_; intro v1 w8 hown hb8 hg hat)))
  have hXe : (⟨(glue 32 (([sw, si] ++ [s0, s1, s2]).map (·.data.toList))).toArray⟩ : ByteArray) = X := by rw [HX.out, HS.out.1, HS.out.2, HS0.out, HS1.out, HS2.out]; rfl
  have hJ := join_calls (xs := [sw, si] ++ [s0, s1, s2]) (c := 32) hown (by
    have h1 := glue_len 32 (([sw, si] ++ [s0, s1, s2]).map (·.data.toList))
    have h2 := itoa_len wait HEA.out.wait0
    have h3 := wordP_len 2
    have h4 := itoa_len unit HEA.out.unit0
    have h5 := itoa_len n HEA.out.n0
    have h6 := print_len frm
    have h7 := print_len dst
    have h8 := dataP_len l
    have h9 := HEA.out.small
    have h10 := HEA.out.reads.1
    rw [HS.out.1, HS.out.2, HS0.out, HS1.out, HS2.out] at h1 ⊢
    simp only [List.cons_append, List.nil_append, List.map_cons, List.map_nil, List.sum_cons, List.sum_nil, ba_list] at h1 ⊢
    omega) (by simp)
  rw [hXe] at hJ
  clear hXe
  refine hJ.mono ?_
  rintro e w9 ⟨rfl, hb9⟩
  go_wp2_with fail
  go_ret2
  exact ⟨rfl, hb8.trans (hb9.mono hb8.size)⟩
set_option maxRecDepth 100000 in
set_option maxHeartbeats 2000000 in
theorem enc3 (wait frm dst unit : Int) (A : Option Addr) (m c : Nat) (l : List Int) (n : Int) (w : World) (HE : EvOk w wait frm dst unit A m c l n) (hf : formP 3 wait unit n m = 0) :
    Calls Tryz.prog 10 #[evV 3 wait frm dst unit A m c n] w fun e w' => e = .returned (.tuple #[.string (ba (encL 3 wait frm dst unit l n)), .int .i64 0]) ∧ Below w.heap.size w w' := by
  have hform := fun W => formed_calls 3 wait frm dst unit A m c n W
  rw [hf] at hform
  clear hf
  obtain ⟨X, hX⟩ : ∃ X, X = ba (encL 3 wait frm dst unit l n) := ⟨_, rfl⟩
  rw [← hX]
  have HX := Aside0.mk hX
  have HEA := Aside0.mk HE
  clear hX HE
  unfold evV at hform ⊢
  obtain ⟨cs, hcs⟩ : ∃ cs : Array Value, cs = #[.int .i64 3, .int .i64 wait, .int .u32 frm, .int .u32 dst, .int .i64 unit, .slice A m c, .int .i64 n] := ⟨_, rfl⟩
  have HCS := Aside0.mk hcs
  clear hcs
  go_enter Tryz.func10, Tryz.ntmps10
  go_wp2_with fail
  have h0 : Held w w.heap.size w.heap.size (.cells cs 25 (0, 0)) (w.alloc (.cells #[.int .i64 3, .int .i64 wait, .int .u32 frm, .int .u32 dst, .int .i64 unit, .slice A m c, .int .i64 n] 25)) :=
    ⟨below_alloc (Below.refl _ _) _, by rw [HCS.out]; exact heap_alloc_new w _, by simp⟩
  refine (hform _).mono ?_
  rintro e w1 ⟨rfl, hb1⟩
  have h1 := h0.next hb1
  clear h0 hb1 hform
  have HH := Aside0.mk h1
  clear h1
  go_wp2_with fail
  have hkd : ∀ x : InD (Held w w.heap.size w.heap.size (.cells cs 25 (0, 0))), x.val.cell? ⟨w.heap.size, 0, none⟩ = some (.int .i64 3) := fun x => (x.ok.cell 0).trans (by rw [HCS.out]; rfl)
  have hwt : ∀ x : InD (Held w w.heap.size w.heap.size (.cells cs 25 (0, 0))), x.val.cell? ⟨w.heap.size, 1, none⟩ = some (.int .i64 wait) := fun x => (x.ok.cell 1).trans (by rw [HCS.out]; rfl)
  have cw : ∀ x : InD (Held w w.heap.size w.heap.size (.cells cs 25 (0, 0))), Calls Tryz.prog 25 #[.int .i64 3] x.val fun e w'' => e = .returned (.string (ba (wordP 3))) ∧ ∃ y : InD (Held w w.heap.size w.heap.size (.cells cs 25 (0, 0))), w'' = y.val :=
    fun x => calls_in ((word_calls 3 x.val (by decide) (by decide)).mono fun _ _ ⟨he, hw⟩ => ⟨he, by rw [hw]; exact x.ok⟩)
  have ci : ∀ x : InD (Held w w.heap.size w.heap.size (.cells cs 25 (0, 0))), Calls Tryz.prog 26 #[.int .i64 wait] x.val fun e w'' => e = .returned (.string (ba (Lib.itoa wait))) ∧ ∃ y : InD (Held w w.heap.size w.heap.size (.cells cs 25 (0, 0))), w'' = y.val :=
    fun x => calls_in ((itoa_calls wait HEA.out.wait0.1 HEA.out.wait0.2 x.val (HEA.out.laid.below x.ok.below (Nat.le_refl _))).mono fun _ _ ⟨he, hb⟩ => ⟨he, x.ok.next hb⟩)
  obtain ⟨sw, hsw⟩ : ∃ s, s = ba (wordP 3) := ⟨_, rfl⟩
  obtain ⟨si, hsi⟩ : ∃ s, s = ba (Lib.itoa wait) := ⟨_, rfl⟩
  rw [← hsw] at cw
  rw [← hsi] at ci
  have HS := Aside0.mk (And.intro hsw hsi)
  clear hsw hsi
  haveI : Nonempty (InD (Held w w.heap.size w.heap.size (.cells cs 25 (0, 0)))) := ⟨⟨_, HH.out.drew⟩⟩
  refine wp_region_class_tail (Held w w.heap.size w.heap.size (.cells cs 25 (0, 0))) 6 (by kernel_rfl) (by kernel_rfl) HH.out.drew ?_
  simp only [List.take, List.drop]
  repeat (go_big_quiet_step (first | with_reducible exact cw _ | with_reducible exact ci _))
  refine wpQuiet_nil ?_
  clear hkd hwt cw ci HH
  intro x
  obtain ⟨W, hW⟩ : ∃ W, W = x.val := ⟨_, rfl⟩
  have hWH := x.ok
  rw [← hW] at hWH ⊢
  clear hW x this
  have k0 : W.cell? ⟨w.heap.size, 0, none⟩ = some (.int .i64 3) := (hWH.cell 0).trans (by rw [HCS.out]; rfl)
  have k6 : W.cell? ⟨w.heap.size, 6, none⟩ = some (.int .i64 n) := (hWH.cell 6).trans (by rw [HCS.out]; rfl)
  have hne : ¬ w.heap.size = W.heap.size := fun h => World.new_ne W _ k0 h.symm
  have hne' : ¬ W.heap.size = w.heap.size := World.new_ne W _ k0
  have HO := Aside0.mk (own_lits W w.heap.size 9 [.string sw, .string si] hWH.size (by simp))
  have HB := Aside0.mk (show Below w.heap.size w (W.alloc (.cells #[.string sw, .string si] 9)) from hWH.below.alloc hWH.size _)
  have HWH := Aside0.mk (show Held w w.heap.size w.heap.size (.cells cs 25 (0, 0)) (W.alloc (.cells #[.string sw, .string si] 9)) from hWH.next (below_alloc (Below.refl _ _) _))
  clear hWH
  have q0 : (W.alloc (.cells #[.string sw, .string si] 9)).cell? ⟨w.heap.size, 0, none⟩ = some (.int .i64 3) := (HWH.out.cell 0).trans (by rw [HCS.out]; rfl)
  have q6 : (W.alloc (.cells #[.string sw, .string si] 9)).cell? ⟨w.heap.size, 6, none⟩ = some (.int .i64 n) := (HWH.out.cell 6).trans (by rw [HCS.out]; rfl)
  go_wp2_with fail
  clear k0 k6 q0 q6 hne hne'
  haveI : Nonempty (InD (HeldRow w w.heap.size w.heap.size (.cells cs 25 (0, 0)) (.slice (some ⟨W.heap.size, 0, none⟩) 2 2) [.string sw, .string si])) := ⟨⟨_, (show HeldRow w w.heap.size w.heap.size (.cells cs 25 (0, 0)) (.slice (some ⟨W.heap.size, 0, none⟩) 2 2) [.string sw, .string si] _ from ⟨HWH.out, HO.out⟩).drew⟩⟩
  have hc4 : ∀ x : InD (HeldRow w w.heap.size w.heap.size (.cells cs 25 (0, 0)) (.slice (some ⟨W.heap.size, 0, none⟩) 2 2) [.string sw, .string si]), x.val.cell? ⟨w.heap.size, 4, none⟩ = some (.int .i64 unit) := fun x => (x.ok.held.cell 4).trans (by rw [HCS.out]; rfl)
  have hc5 : ∀ x : InD (HeldRow w w.heap.size w.heap.size (.cells cs 25 (0, 0)) (.slice (some ⟨W.heap.size, 0, none⟩) 2 2) [.string sw, .string si]), x.val.cell? ⟨w.heap.size, 5, none⟩ = some (.slice A m c) := fun x => (x.ok.held.cell 5).trans (by rw [HCS.out]; rfl)
  have cc0 : ∀ x : InD (HeldRow w w.heap.size w.heap.size (.cells cs 25 (0, 0)) (.slice (some ⟨W.heap.size, 0, none⟩) 2 2) [.string sw, .string si]), Calls Tryz.prog 26 #[.int .i64 unit] x.val fun e w'' => e = .returned (.string (ba (Lib.itoa unit))) ∧ ∃ y : InD (HeldRow w w.heap.size w.heap.size (.cells cs 25 (0, 0)) (.slice (some ⟨W.heap.size, 0, none⟩) 2 2) [.string sw, .string si]), w'' = y.val :=
    fun x => calls_in ((itoa_calls unit HEA.out.unit0.1 HEA.out.unit0.2 x.val (HEA.out.laid.on x.ok.held.below)).mono fun _ _ ⟨he, hb⟩ => ⟨he, x.ok.next hb⟩)
  obtain ⟨s0, hs0⟩ : ∃ s, s = ba (Lib.itoa unit) := ⟨_, rfl⟩
  rw [← hs0] at cc0
  have HS0 := Aside0.mk hs0
  clear hs0
  have cc1 : ∀ x : InD (HeldRow w w.heap.size w.heap.size (.cells cs 25 (0, 0)) (.slice (some ⟨W.heap.size, 0, none⟩) 2 2) [.string sw, .string si]), Calls Tryz.prog 28 #[.slice A m c] x.val fun e w'' => e = .returned (.string (ba (dataP l))) ∧ ∃ y : InD (HeldRow w w.heap.size w.heap.size (.cells cs 25 (0, 0)) (.slice (some ⟨W.heap.size, 0, none⟩) 2 2) [.string sw, .string si]), w'' = y.val :=
    fun x => calls_in ((data_calls A m c l x.val (Kd.C_below HEA.out.reads x.ok.held.below) HEA.out.bytes HEA.out.small).mono fun _ _ ⟨he, hb⟩ => ⟨he, x.ok.next hb⟩)
  obtain ⟨s1, hs1⟩ : ∃ s, s = ba (dataP l) := ⟨_, rfl⟩
  rw [← hs1] at cc1
  have HS1 := Aside0.mk hs1
  clear hs1
  refine wp_region_move_tail (.tmp 5) (HeldRow w w.heap.size w.heap.size (.cells cs 25 (0, 0)) (.slice (some ⟨W.heap.size, 0, none⟩) 2 2) [.string sw, .string si]) 7 rfl rfl (by kernel_rfl) (by kernel_rfl) (HeldRow.drew ⟨HWH.out, HO.out⟩) (fun _ _ _ h => h) rfl ?_
  simp only [List.take, List.drop, Act.put, List.setIfInBounds_toArray, List.set_cons_succ, List.set_cons_zero, Nat.reduceSub]
  repeat (go_big_quiet_step (first | with_reducible exact cc0 _ | with_reducible exact cc1 _))
  refine wpQuiet_nil ?_
  clear hc4 hc5 cc0 cc1 HO HB HWH
  intro x
  obtain ⟨W2, hW2⟩ : ∃ W, W = x.val := ⟨_, rfl⟩
  have hWH := x.ok
  rw [← hW2] at hWH ⊢
  clear hW2 x this
  have HO7 := Aside0.mk hWH.own
  have HB7 := Aside0.mk hWH.held.below
  have hsz := hWH.held.size
  clear hWH
  go_wp2_with (refine gate_builtin (b := .append) rfl ?_; go_must ((refine append_lits (w0 := w) w.heap.size rfl (.tmp 36) (.tmp 43) 44 9 (.string ⟨#[]⟩) 16 rfl Tryz.underlying44 str_info rfl (by decide) _ 2 [.string sw, .string si] [.string s0, .string s1] rfl rfl (by intro u hu; simp only [List.mem_cons, List.mem_nil_iff, or_false] at hu; rcases hu with rfl | rfl <;> rfl) HO7.out HB7.out hsz (by simp) ?_; intro v1 w8 hown hb8 hg hat)))
  have hXe : (⟨(glue 32 (([sw, si] ++ [s0, s1]).map (·.data.toList))).toArray⟩ : ByteArray) = X := by rw [HX.out, HS.out.1, HS.out.2, HS0.out, HS1.out]; rfl
  have hJ := join_calls (xs := [sw, si] ++ [s0, s1]) (c := 32) hown (by
    have h1 := glue_len 32 (([sw, si] ++ [s0, s1]).map (·.data.toList))
    have h2 := itoa_len wait HEA.out.wait0
    have h3 := wordP_len 3
    have h4 := itoa_len unit HEA.out.unit0
    have h5 := itoa_len n HEA.out.n0
    have h6 := print_len frm
    have h7 := print_len dst
    have h8 := dataP_len l
    have h9 := HEA.out.small
    have h10 := HEA.out.reads.1
    rw [HS.out.1, HS.out.2, HS0.out, HS1.out] at h1 ⊢
    simp only [List.cons_append, List.nil_append, List.map_cons, List.map_nil, List.sum_cons, List.sum_nil, ba_list] at h1 ⊢
    omega) (by simp)
  rw [hXe] at hJ
  clear hXe
  refine hJ.mono ?_
  rintro e w9 ⟨rfl, hb9⟩
  go_wp2_with fail
  go_ret2
  exact ⟨rfl, hb8.trans (hb9.mono hb8.size)⟩
set_option maxRecDepth 100000 in
set_option maxHeartbeats 2000000 in
theorem enc4 (wait frm dst unit : Int) (A : Option Addr) (m c : Nat) (l : List Int) (n : Int) (w : World) (HE : EvOk w wait frm dst unit A m c l n) (hf : formP 4 wait unit n m = 0) :
    Calls Tryz.prog 10 #[evV 4 wait frm dst unit A m c n] w fun e w' => e = .returned (.tuple #[.string (ba (encL 4 wait frm dst unit l n)), .int .i64 0]) ∧ Below w.heap.size w w' := by
  have hform := fun W => formed_calls 4 wait frm dst unit A m c n W
  rw [hf] at hform
  clear hf
  obtain ⟨X, hX⟩ : ∃ X, X = ba (encL 4 wait frm dst unit l n) := ⟨_, rfl⟩
  rw [← hX]
  have HX := Aside0.mk hX
  have HEA := Aside0.mk HE
  clear hX HE
  unfold evV at hform ⊢
  obtain ⟨cs, hcs⟩ : ∃ cs : Array Value, cs = #[.int .i64 4, .int .i64 wait, .int .u32 frm, .int .u32 dst, .int .i64 unit, .slice A m c, .int .i64 n] := ⟨_, rfl⟩
  have HCS := Aside0.mk hcs
  clear hcs
  go_enter Tryz.func10, Tryz.ntmps10
  go_wp2_with fail
  have h0 : Held w w.heap.size w.heap.size (.cells cs 25 (0, 0)) (w.alloc (.cells #[.int .i64 4, .int .i64 wait, .int .u32 frm, .int .u32 dst, .int .i64 unit, .slice A m c, .int .i64 n] 25)) :=
    ⟨below_alloc (Below.refl _ _) _, by rw [HCS.out]; exact heap_alloc_new w _, by simp⟩
  refine (hform _).mono ?_
  rintro e w1 ⟨rfl, hb1⟩
  have h1 := h0.next hb1
  clear h0 hb1 hform
  have HH := Aside0.mk h1
  clear h1
  go_wp2_with fail
  have hkd : ∀ x : InD (Held w w.heap.size w.heap.size (.cells cs 25 (0, 0))), x.val.cell? ⟨w.heap.size, 0, none⟩ = some (.int .i64 4) := fun x => (x.ok.cell 0).trans (by rw [HCS.out]; rfl)
  have hwt : ∀ x : InD (Held w w.heap.size w.heap.size (.cells cs 25 (0, 0))), x.val.cell? ⟨w.heap.size, 1, none⟩ = some (.int .i64 wait) := fun x => (x.ok.cell 1).trans (by rw [HCS.out]; rfl)
  have cw : ∀ x : InD (Held w w.heap.size w.heap.size (.cells cs 25 (0, 0))), Calls Tryz.prog 25 #[.int .i64 4] x.val fun e w'' => e = .returned (.string (ba (wordP 4))) ∧ ∃ y : InD (Held w w.heap.size w.heap.size (.cells cs 25 (0, 0))), w'' = y.val :=
    fun x => calls_in ((word_calls 4 x.val (by decide) (by decide)).mono fun _ _ ⟨he, hw⟩ => ⟨he, by rw [hw]; exact x.ok⟩)
  have ci : ∀ x : InD (Held w w.heap.size w.heap.size (.cells cs 25 (0, 0))), Calls Tryz.prog 26 #[.int .i64 wait] x.val fun e w'' => e = .returned (.string (ba (Lib.itoa wait))) ∧ ∃ y : InD (Held w w.heap.size w.heap.size (.cells cs 25 (0, 0))), w'' = y.val :=
    fun x => calls_in ((itoa_calls wait HEA.out.wait0.1 HEA.out.wait0.2 x.val (HEA.out.laid.below x.ok.below (Nat.le_refl _))).mono fun _ _ ⟨he, hb⟩ => ⟨he, x.ok.next hb⟩)
  obtain ⟨sw, hsw⟩ : ∃ s, s = ba (wordP 4) := ⟨_, rfl⟩
  obtain ⟨si, hsi⟩ : ∃ s, s = ba (Lib.itoa wait) := ⟨_, rfl⟩
  rw [← hsw] at cw
  rw [← hsi] at ci
  have HS := Aside0.mk (And.intro hsw hsi)
  clear hsw hsi
  haveI : Nonempty (InD (Held w w.heap.size w.heap.size (.cells cs 25 (0, 0)))) := ⟨⟨_, HH.out.drew⟩⟩
  refine wp_region_class_tail (Held w w.heap.size w.heap.size (.cells cs 25 (0, 0))) 6 (by kernel_rfl) (by kernel_rfl) HH.out.drew ?_
  simp only [List.take, List.drop]
  repeat (go_big_quiet_step (first | with_reducible exact cw _ | with_reducible exact ci _))
  refine wpQuiet_nil ?_
  clear hkd hwt cw ci HH
  intro x
  obtain ⟨W, hW⟩ : ∃ W, W = x.val := ⟨_, rfl⟩
  have hWH := x.ok
  rw [← hW] at hWH ⊢
  clear hW x this
  have k0 : W.cell? ⟨w.heap.size, 0, none⟩ = some (.int .i64 4) := (hWH.cell 0).trans (by rw [HCS.out]; rfl)
  have k6 : W.cell? ⟨w.heap.size, 6, none⟩ = some (.int .i64 n) := (hWH.cell 6).trans (by rw [HCS.out]; rfl)
  have hne : ¬ w.heap.size = W.heap.size := fun h => World.new_ne W _ k0 h.symm
  have hne' : ¬ W.heap.size = w.heap.size := World.new_ne W _ k0
  have HO := Aside0.mk (own_lits W w.heap.size 9 [.string sw, .string si] hWH.size (by simp))
  have HB := Aside0.mk (show Below w.heap.size w (W.alloc (.cells #[.string sw, .string si] 9)) from hWH.below.alloc hWH.size _)
  have HWH := Aside0.mk (show Held w w.heap.size w.heap.size (.cells cs 25 (0, 0)) (W.alloc (.cells #[.string sw, .string si] 9)) from hWH.next (below_alloc (Below.refl _ _) _))
  clear hWH
  have q0 : (W.alloc (.cells #[.string sw, .string si] 9)).cell? ⟨w.heap.size, 0, none⟩ = some (.int .i64 4) := (HWH.out.cell 0).trans (by rw [HCS.out]; rfl)
  have q6 : (W.alloc (.cells #[.string sw, .string si] 9)).cell? ⟨w.heap.size, 6, none⟩ = some (.int .i64 n) := (HWH.out.cell 6).trans (by rw [HCS.out]; rfl)
  go_wp2_with fail
  clear k0 k6 q0 q6 hne hne'
  haveI : Nonempty (InD (HeldRow w w.heap.size w.heap.size (.cells cs 25 (0, 0)) (.slice (some ⟨W.heap.size, 0, none⟩) 2 2) [.string sw, .string si])) := ⟨⟨_, (show HeldRow w w.heap.size w.heap.size (.cells cs 25 (0, 0)) (.slice (some ⟨W.heap.size, 0, none⟩) 2 2) [.string sw, .string si] _ from ⟨HWH.out, HO.out⟩).drew⟩⟩
  have hc4 : ∀ x : InD (HeldRow w w.heap.size w.heap.size (.cells cs 25 (0, 0)) (.slice (some ⟨W.heap.size, 0, none⟩) 2 2) [.string sw, .string si]), x.val.cell? ⟨w.heap.size, 4, none⟩ = some (.int .i64 unit) := fun x => (x.ok.held.cell 4).trans (by rw [HCS.out]; rfl)
  have hc6 : ∀ x : InD (HeldRow w w.heap.size w.heap.size (.cells cs 25 (0, 0)) (.slice (some ⟨W.heap.size, 0, none⟩) 2 2) [.string sw, .string si]), x.val.cell? ⟨w.heap.size, 6, none⟩ = some (.int .i64 n) := fun x => (x.ok.held.cell 6).trans (by rw [HCS.out]; rfl)
  have cc0 : ∀ x : InD (HeldRow w w.heap.size w.heap.size (.cells cs 25 (0, 0)) (.slice (some ⟨W.heap.size, 0, none⟩) 2 2) [.string sw, .string si]), Calls Tryz.prog 26 #[.int .i64 unit] x.val fun e w'' => e = .returned (.string (ba (Lib.itoa unit))) ∧ ∃ y : InD (HeldRow w w.heap.size w.heap.size (.cells cs 25 (0, 0)) (.slice (some ⟨W.heap.size, 0, none⟩) 2 2) [.string sw, .string si]), w'' = y.val :=
    fun x => calls_in ((itoa_calls unit HEA.out.unit0.1 HEA.out.unit0.2 x.val (HEA.out.laid.on x.ok.held.below)).mono fun _ _ ⟨he, hb⟩ => ⟨he, x.ok.next hb⟩)
  obtain ⟨s0, hs0⟩ : ∃ s, s = ba (Lib.itoa unit) := ⟨_, rfl⟩
  rw [← hs0] at cc0
  have HS0 := Aside0.mk hs0
  clear hs0
  have cc1 : ∀ x : InD (HeldRow w w.heap.size w.heap.size (.cells cs 25 (0, 0)) (.slice (some ⟨W.heap.size, 0, none⟩) 2 2) [.string sw, .string si]), Calls Tryz.prog 26 #[.int .i64 n] x.val fun e w'' => e = .returned (.string (ba (Lib.itoa n))) ∧ ∃ y : InD (HeldRow w w.heap.size w.heap.size (.cells cs 25 (0, 0)) (.slice (some ⟨W.heap.size, 0, none⟩) 2 2) [.string sw, .string si]), w'' = y.val :=
    fun x => calls_in ((itoa_calls n HEA.out.n0.1 HEA.out.n0.2 x.val (HEA.out.laid.on x.ok.held.below)).mono fun _ _ ⟨he, hb⟩ => ⟨he, x.ok.next hb⟩)
  obtain ⟨s1, hs1⟩ : ∃ s, s = ba (Lib.itoa n) := ⟨_, rfl⟩
  rw [← hs1] at cc1
  have HS1 := Aside0.mk hs1
  clear hs1
  refine wp_region_move_tail (.tmp 5) (HeldRow w w.heap.size w.heap.size (.cells cs 25 (0, 0)) (.slice (some ⟨W.heap.size, 0, none⟩) 2 2) [.string sw, .string si]) 7 rfl rfl (by kernel_rfl) (by kernel_rfl) (HeldRow.drew ⟨HWH.out, HO.out⟩) (fun _ _ _ h => h) rfl ?_
  simp only [List.take, List.drop, Act.put, List.setIfInBounds_toArray, List.set_cons_succ, List.set_cons_zero, Nat.reduceSub]
  repeat (go_big_quiet_step (first | with_reducible exact cc0 _ | with_reducible exact cc1 _))
  refine wpQuiet_nil ?_
  clear hc4 hc6 cc0 cc1 HO HB HWH
  intro x
  obtain ⟨W2, hW2⟩ : ∃ W, W = x.val := ⟨_, rfl⟩
  have hWH := x.ok
  rw [← hW2] at hWH ⊢
  clear hW2 x this
  have HO7 := Aside0.mk hWH.own
  have HB7 := Aside0.mk hWH.held.below
  have hsz := hWH.held.size
  clear hWH
  go_wp2_with (refine gate_builtin (b := .append) rfl ?_; go_must ((refine append_lits (w0 := w) w.heap.size rfl (.tmp 47) (.tmp 54) 44 9 (.string ⟨#[]⟩) 16 rfl Tryz.underlying44 str_info rfl (by decide) _ 2 [.string sw, .string si] [.string s0, .string s1] rfl rfl (by intro u hu; simp only [List.mem_cons, List.mem_nil_iff, or_false] at hu; rcases hu with rfl | rfl <;> rfl) HO7.out HB7.out hsz (by simp) ?_; intro v1 w8 hown hb8 hg hat)))
  have hXe : (⟨(glue 32 (([sw, si] ++ [s0, s1]).map (·.data.toList))).toArray⟩ : ByteArray) = X := by rw [HX.out, HS.out.1, HS.out.2, HS0.out, HS1.out]; rfl
  have hJ := join_calls (xs := [sw, si] ++ [s0, s1]) (c := 32) hown (by
    have h1 := glue_len 32 (([sw, si] ++ [s0, s1]).map (·.data.toList))
    have h2 := itoa_len wait HEA.out.wait0
    have h3 := wordP_len 4
    have h4 := itoa_len unit HEA.out.unit0
    have h5 := itoa_len n HEA.out.n0
    have h6 := print_len frm
    have h7 := print_len dst
    have h8 := dataP_len l
    have h9 := HEA.out.small
    have h10 := HEA.out.reads.1
    rw [HS.out.1, HS.out.2, HS0.out, HS1.out] at h1 ⊢
    simp only [List.cons_append, List.nil_append, List.map_cons, List.map_nil, List.sum_cons, List.sum_nil, ba_list] at h1 ⊢
    omega) (by simp)
  rw [hXe] at hJ
  clear hXe
  refine hJ.mono ?_
  rintro e w9 ⟨rfl, hb9⟩
  go_wp2_with fail
  go_ret2
  exact ⟨rfl, hb8.trans (hb9.mono hb8.size)⟩
set_option maxRecDepth 100000 in
set_option maxHeartbeats 2000000 in
theorem enc5 (wait frm dst unit : Int) (A : Option Addr) (m c : Nat) (l : List Int) (n : Int) (w : World) (HE : EvOk w wait frm dst unit A m c l n) (hf : formP 5 wait unit n m = 0) :
    Calls Tryz.prog 10 #[evV 5 wait frm dst unit A m c n] w fun e w' => e = .returned (.tuple #[.string (ba (encL 5 wait frm dst unit l n)), .int .i64 0]) ∧ Below w.heap.size w w' := by
  have hform := fun W => formed_calls 5 wait frm dst unit A m c n W
  rw [hf] at hform
  clear hf
  obtain ⟨X, hX⟩ : ∃ X, X = ba (encL 5 wait frm dst unit l n) := ⟨_, rfl⟩
  rw [← hX]
  have HX := Aside0.mk hX
  have HEA := Aside0.mk HE
  clear hX HE
  unfold evV at hform ⊢
  obtain ⟨cs, hcs⟩ : ∃ cs : Array Value, cs = #[.int .i64 5, .int .i64 wait, .int .u32 frm, .int .u32 dst, .int .i64 unit, .slice A m c, .int .i64 n] := ⟨_, rfl⟩
  have HCS := Aside0.mk hcs
  clear hcs
  go_enter Tryz.func10, Tryz.ntmps10
  go_wp2_with fail
  have h0 : Held w w.heap.size w.heap.size (.cells cs 25 (0, 0)) (w.alloc (.cells #[.int .i64 5, .int .i64 wait, .int .u32 frm, .int .u32 dst, .int .i64 unit, .slice A m c, .int .i64 n] 25)) :=
    ⟨below_alloc (Below.refl _ _) _, by rw [HCS.out]; exact heap_alloc_new w _, by simp⟩
  refine (hform _).mono ?_
  rintro e w1 ⟨rfl, hb1⟩
  have h1 := h0.next hb1
  clear h0 hb1 hform
  have HH := Aside0.mk h1
  clear h1
  go_wp2_with fail
  have hkd : ∀ x : InD (Held w w.heap.size w.heap.size (.cells cs 25 (0, 0))), x.val.cell? ⟨w.heap.size, 0, none⟩ = some (.int .i64 5) := fun x => (x.ok.cell 0).trans (by rw [HCS.out]; rfl)
  have hwt : ∀ x : InD (Held w w.heap.size w.heap.size (.cells cs 25 (0, 0))), x.val.cell? ⟨w.heap.size, 1, none⟩ = some (.int .i64 wait) := fun x => (x.ok.cell 1).trans (by rw [HCS.out]; rfl)
  have cw : ∀ x : InD (Held w w.heap.size w.heap.size (.cells cs 25 (0, 0))), Calls Tryz.prog 25 #[.int .i64 5] x.val fun e w'' => e = .returned (.string (ba (wordP 5))) ∧ ∃ y : InD (Held w w.heap.size w.heap.size (.cells cs 25 (0, 0))), w'' = y.val :=
    fun x => calls_in ((word_calls 5 x.val (by decide) (by decide)).mono fun _ _ ⟨he, hw⟩ => ⟨he, by rw [hw]; exact x.ok⟩)
  have ci : ∀ x : InD (Held w w.heap.size w.heap.size (.cells cs 25 (0, 0))), Calls Tryz.prog 26 #[.int .i64 wait] x.val fun e w'' => e = .returned (.string (ba (Lib.itoa wait))) ∧ ∃ y : InD (Held w w.heap.size w.heap.size (.cells cs 25 (0, 0))), w'' = y.val :=
    fun x => calls_in ((itoa_calls wait HEA.out.wait0.1 HEA.out.wait0.2 x.val (HEA.out.laid.below x.ok.below (Nat.le_refl _))).mono fun _ _ ⟨he, hb⟩ => ⟨he, x.ok.next hb⟩)
  obtain ⟨sw, hsw⟩ : ∃ s, s = ba (wordP 5) := ⟨_, rfl⟩
  obtain ⟨si, hsi⟩ : ∃ s, s = ba (Lib.itoa wait) := ⟨_, rfl⟩
  rw [← hsw] at cw
  rw [← hsi] at ci
  have HS := Aside0.mk (And.intro hsw hsi)
  clear hsw hsi
  haveI : Nonempty (InD (Held w w.heap.size w.heap.size (.cells cs 25 (0, 0)))) := ⟨⟨_, HH.out.drew⟩⟩
  refine wp_region_class_tail (Held w w.heap.size w.heap.size (.cells cs 25 (0, 0))) 6 (by kernel_rfl) (by kernel_rfl) HH.out.drew ?_
  simp only [List.take, List.drop]
  repeat (go_big_quiet_step (first | with_reducible exact cw _ | with_reducible exact ci _))
  refine wpQuiet_nil ?_
  clear hkd hwt cw ci HH
  intro x
  obtain ⟨W, hW⟩ : ∃ W, W = x.val := ⟨_, rfl⟩
  have hWH := x.ok
  rw [← hW] at hWH ⊢
  clear hW x this
  have k0 : W.cell? ⟨w.heap.size, 0, none⟩ = some (.int .i64 5) := (hWH.cell 0).trans (by rw [HCS.out]; rfl)
  have k6 : W.cell? ⟨w.heap.size, 6, none⟩ = some (.int .i64 n) := (hWH.cell 6).trans (by rw [HCS.out]; rfl)
  have hne : ¬ w.heap.size = W.heap.size := fun h => World.new_ne W _ k0 h.symm
  have hne' : ¬ W.heap.size = w.heap.size := World.new_ne W _ k0
  have HO := Aside0.mk (own_lits W w.heap.size 9 [.string sw, .string si] hWH.size (by simp))
  have HB := Aside0.mk (show Below w.heap.size w (W.alloc (.cells #[.string sw, .string si] 9)) from hWH.below.alloc hWH.size _)
  have HWH := Aside0.mk (show Held w w.heap.size w.heap.size (.cells cs 25 (0, 0)) (W.alloc (.cells #[.string sw, .string si] 9)) from hWH.next (below_alloc (Below.refl _ _) _))
  clear hWH
  have q0 : (W.alloc (.cells #[.string sw, .string si] 9)).cell? ⟨w.heap.size, 0, none⟩ = some (.int .i64 5) := (HWH.out.cell 0).trans (by rw [HCS.out]; rfl)
  have q6 : (W.alloc (.cells #[.string sw, .string si] 9)).cell? ⟨w.heap.size, 6, none⟩ = some (.int .i64 n) := (HWH.out.cell 6).trans (by rw [HCS.out]; rfl)
  go_wp2_with fail
  refine (itoa_calls n HEA.out.n0.1 HEA.out.n0.2 _ (HEA.out.laid.on HB.out)).mono ?_
  rintro e w7 ⟨rfl, hb7⟩
  have HO7 := Aside0.mk (pw_own_below HO.out hb7)
  have HB7 := Aside0.mk (show Below w.heap.size w w7 from HB.out.trans (hb7.mono HB.out.size))
  clear HO HB HWH hb7 k0 k6 q0 q6 hne hne'
  obtain ⟨s0, hs0⟩ : ∃ s, s = (⟨(Lib.itoa n).toArray⟩ : ByteArray) := ⟨_, rfl⟩
  rw [← hs0]
  have HS0 := Aside0.mk (show s0 = ba (Lib.itoa n) from hs0)
  clear hs0
  go_wp2_with (refine gate_builtin (b := .append) rfl ?_; go_must ((refine append_lits (w0 := w) w.heap.size rfl (.tmp 60) (.tmp 64) 44 9 (.string ⟨#[]⟩) 16 rfl Tryz.underlying44 str_info rfl (by decide) _ 2 [.string sw, .string si] [.string s0] rfl rfl (by intro u hu; simp at hu; subst hu; rfl) HO7.out HB7.out HB7.out.size (by simp) ?_; intro v1 w8 hown hb8 hg hat)))
  have hXe : (⟨(glue 32 ([sw, si, s0].map (·.data.toList))).toArray⟩ : ByteArray) = X := by rw [HX.out, HS.out.1, HS.out.2, HS0.out]; rfl
  have hJ := join_calls (xs := [sw, si, s0]) (c := 32) hown (by
    have h1 := glue_len 32 ([sw, si, s0].map (·.data.toList))
    have h2 := itoa_len wait HEA.out.wait0
    have h4 := itoa_len n HEA.out.n0
    have h3 := wordP_len 5
    rw [HS.out.1, HS.out.2, HS0.out] at h1 ⊢
    simp only [List.map_cons, List.map_nil, List.sum_cons, List.sum_nil, ba_list] at h1 ⊢
    omega) (by simp)
  rw [hXe] at hJ
  clear hXe
  refine hJ.mono ?_
  rintro e w9 ⟨rfl, hb9⟩
  go_wp2_with fail
  go_ret2
  exact ⟨rfl, hb8.trans (hb9.mono hb8.size)⟩
set_option maxRecDepth 100000 in
set_option maxHeartbeats 2000000 in
theorem enc6 (wait frm dst unit : Int) (A : Option Addr) (m c : Nat) (l : List Int) (n : Int) (w : World) (HE : EvOk w wait frm dst unit A m c l n) (hf : formP 6 wait unit n m = 0) :
    Calls Tryz.prog 10 #[evV 6 wait frm dst unit A m c n] w fun e w' => e = .returned (.tuple #[.string (ba (encL 6 wait frm dst unit l n)), .int .i64 0]) ∧ Below w.heap.size w w' := by
  have hform := fun W => formed_calls 6 wait frm dst unit A m c n W
  rw [hf] at hform
  clear hf
  obtain ⟨X, hX⟩ : ∃ X, X = ba (encL 6 wait frm dst unit l n) := ⟨_, rfl⟩
  rw [← hX]
  have HX := Aside0.mk hX
  have HEA := Aside0.mk HE
  clear hX HE
  unfold evV at hform ⊢
  obtain ⟨cs, hcs⟩ : ∃ cs : Array Value, cs = #[.int .i64 6, .int .i64 wait, .int .u32 frm, .int .u32 dst, .int .i64 unit, .slice A m c, .int .i64 n] := ⟨_, rfl⟩
  have HCS := Aside0.mk hcs
  clear hcs
  go_enter Tryz.func10, Tryz.ntmps10
  go_wp2_with fail
  have h0 : Held w w.heap.size w.heap.size (.cells cs 25 (0, 0)) (w.alloc (.cells #[.int .i64 6, .int .i64 wait, .int .u32 frm, .int .u32 dst, .int .i64 unit, .slice A m c, .int .i64 n] 25)) :=
    ⟨below_alloc (Below.refl _ _) _, by rw [HCS.out]; exact heap_alloc_new w _, by simp⟩
  refine (hform _).mono ?_
  rintro e w1 ⟨rfl, hb1⟩
  have h1 := h0.next hb1
  clear h0 hb1 hform
  have HH := Aside0.mk h1
  clear h1
  go_wp2_with fail
  have hkd : ∀ x : InD (Held w w.heap.size w.heap.size (.cells cs 25 (0, 0))), x.val.cell? ⟨w.heap.size, 0, none⟩ = some (.int .i64 6) := fun x => (x.ok.cell 0).trans (by rw [HCS.out]; rfl)
  have hwt : ∀ x : InD (Held w w.heap.size w.heap.size (.cells cs 25 (0, 0))), x.val.cell? ⟨w.heap.size, 1, none⟩ = some (.int .i64 wait) := fun x => (x.ok.cell 1).trans (by rw [HCS.out]; rfl)
  have cw : ∀ x : InD (Held w w.heap.size w.heap.size (.cells cs 25 (0, 0))), Calls Tryz.prog 25 #[.int .i64 6] x.val fun e w'' => e = .returned (.string (ba (wordP 6))) ∧ ∃ y : InD (Held w w.heap.size w.heap.size (.cells cs 25 (0, 0))), w'' = y.val :=
    fun x => calls_in ((word_calls 6 x.val (by decide) (by decide)).mono fun _ _ ⟨he, hw⟩ => ⟨he, by rw [hw]; exact x.ok⟩)
  have ci : ∀ x : InD (Held w w.heap.size w.heap.size (.cells cs 25 (0, 0))), Calls Tryz.prog 26 #[.int .i64 wait] x.val fun e w'' => e = .returned (.string (ba (Lib.itoa wait))) ∧ ∃ y : InD (Held w w.heap.size w.heap.size (.cells cs 25 (0, 0))), w'' = y.val :=
    fun x => calls_in ((itoa_calls wait HEA.out.wait0.1 HEA.out.wait0.2 x.val (HEA.out.laid.below x.ok.below (Nat.le_refl _))).mono fun _ _ ⟨he, hb⟩ => ⟨he, x.ok.next hb⟩)
  obtain ⟨sw, hsw⟩ : ∃ s, s = ba (wordP 6) := ⟨_, rfl⟩
  obtain ⟨si, hsi⟩ : ∃ s, s = ba (Lib.itoa wait) := ⟨_, rfl⟩
  rw [← hsw] at cw
  rw [← hsi] at ci
  have HS := Aside0.mk (And.intro hsw hsi)
  clear hsw hsi
  haveI : Nonempty (InD (Held w w.heap.size w.heap.size (.cells cs 25 (0, 0)))) := ⟨⟨_, HH.out.drew⟩⟩
  refine wp_region_class_tail (Held w w.heap.size w.heap.size (.cells cs 25 (0, 0))) 6 (by kernel_rfl) (by kernel_rfl) HH.out.drew ?_
  simp only [List.take, List.drop]
  repeat (go_big_quiet_step (first | with_reducible exact cw _ | with_reducible exact ci _))
  refine wpQuiet_nil ?_
  clear hkd hwt cw ci HH
  intro x
  obtain ⟨W, hW⟩ : ∃ W, W = x.val := ⟨_, rfl⟩
  have hWH := x.ok
  rw [← hW] at hWH ⊢
  clear hW x this
  have k0 : W.cell? ⟨w.heap.size, 0, none⟩ = some (.int .i64 6) := (hWH.cell 0).trans (by rw [HCS.out]; rfl)
  have k6 : W.cell? ⟨w.heap.size, 6, none⟩ = some (.int .i64 n) := (hWH.cell 6).trans (by rw [HCS.out]; rfl)
  have hne : ¬ w.heap.size = W.heap.size := fun h => World.new_ne W _ k0 h.symm
  have hne' : ¬ W.heap.size = w.heap.size := World.new_ne W _ k0
  have HO := Aside0.mk (own_lits W w.heap.size 9 [.string sw, .string si] hWH.size (by simp))
  have HB := Aside0.mk (show Below w.heap.size w (W.alloc (.cells #[.string sw, .string si] 9)) from hWH.below.alloc hWH.size _)
  have HWH := Aside0.mk (show Held w w.heap.size w.heap.size (.cells cs 25 (0, 0)) (W.alloc (.cells #[.string sw, .string si] 9)) from hWH.next (below_alloc (Below.refl _ _) _))
  clear hWH
  have q0 : (W.alloc (.cells #[.string sw, .string si] 9)).cell? ⟨w.heap.size, 0, none⟩ = some (.int .i64 6) := (HWH.out.cell 0).trans (by rw [HCS.out]; rfl)
  have q6 : (W.alloc (.cells #[.string sw, .string si] 9)).cell? ⟨w.heap.size, 6, none⟩ = some (.int .i64 n) := (HWH.out.cell 6).trans (by rw [HCS.out]; rfl)
  go_wp2_with fail
  refine (itoa_calls n HEA.out.n0.1 HEA.out.n0.2 _ (HEA.out.laid.on HB.out)).mono ?_
  rintro e w7 ⟨rfl, hb7⟩
  have HO7 := Aside0.mk (pw_own_below HO.out hb7)
  have HB7 := Aside0.mk (show Below w.heap.size w w7 from HB.out.trans (hb7.mono HB.out.size))
  clear HO HB HWH hb7 k0 k6 q0 q6 hne hne'
  obtain ⟨s0, hs0⟩ : ∃ s, s = (⟨(Lib.itoa n).toArray⟩ : ByteArray) := ⟨_, rfl⟩
  rw [← hs0]
  have HS0 := Aside0.mk (show s0 = ba (Lib.itoa n) from hs0)
  clear hs0
  go_wp2_with (refine gate_builtin (b := .append) rfl ?_; go_must ((refine append_lits (w0 := w) w.heap.size rfl (.tmp 60) (.tmp 64) 44 9 (.string ⟨#[]⟩) 16 rfl Tryz.underlying44 str_info rfl (by decide) _ 2 [.string sw, .string si] [.string s0] rfl rfl (by intro u hu; simp at hu; subst hu; rfl) HO7.out HB7.out HB7.out.size (by simp) ?_; intro v1 w8 hown hb8 hg hat)))
  have hXe : (⟨(glue 32 ([sw, si, s0].map (·.data.toList))).toArray⟩ : ByteArray) = X := by rw [HX.out, HS.out.1, HS.out.2, HS0.out]; rfl
  have hJ := join_calls (xs := [sw, si, s0]) (c := 32) hown (by
    have h1 := glue_len 32 ([sw, si, s0].map (·.data.toList))
    have h2 := itoa_len wait HEA.out.wait0
    have h4 := itoa_len n HEA.out.n0
    have h3 := wordP_len 6
    rw [HS.out.1, HS.out.2, HS0.out] at h1 ⊢
    simp only [List.map_cons, List.map_nil, List.sum_cons, List.sum_nil, ba_list] at h1 ⊢
    omega) (by simp)
  rw [hXe] at hJ
  clear hXe
  refine hJ.mono ?_
  rintro e w9 ⟨rfl, hb9⟩
  go_wp2_with fail
  go_ret2
  exact ⟨rfl, hb8.trans (hb9.mono hb8.size)⟩
set_option maxRecDepth 100000 in
set_option maxHeartbeats 2000000 in
theorem enc7 (wait frm dst unit : Int) (A : Option Addr) (m c : Nat) (l : List Int) (n : Int) (w : World) (HE : EvOk w wait frm dst unit A m c l n) (hf : formP 7 wait unit n m = 0) :
    Calls Tryz.prog 10 #[evV 7 wait frm dst unit A m c n] w fun e w' => e = .returned (.tuple #[.string (ba (encL 7 wait frm dst unit l n)), .int .i64 0]) ∧ Below w.heap.size w w' := by
  have hform := fun W => formed_calls 7 wait frm dst unit A m c n W
  rw [hf] at hform
  clear hf
  obtain ⟨X, hX⟩ : ∃ X, X = ba (encL 7 wait frm dst unit l n) := ⟨_, rfl⟩
  rw [← hX]
  have HX := Aside0.mk hX
  have HEA := Aside0.mk HE
  clear hX HE
  unfold evV at hform ⊢
  obtain ⟨cs, hcs⟩ : ∃ cs : Array Value, cs = #[.int .i64 7, .int .i64 wait, .int .u32 frm, .int .u32 dst, .int .i64 unit, .slice A m c, .int .i64 n] := ⟨_, rfl⟩
  have HCS := Aside0.mk hcs
  clear hcs
  go_enter Tryz.func10, Tryz.ntmps10
  go_wp2_with fail
  have h0 : Held w w.heap.size w.heap.size (.cells cs 25 (0, 0)) (w.alloc (.cells #[.int .i64 7, .int .i64 wait, .int .u32 frm, .int .u32 dst, .int .i64 unit, .slice A m c, .int .i64 n] 25)) :=
    ⟨below_alloc (Below.refl _ _) _, by rw [HCS.out]; exact heap_alloc_new w _, by simp⟩
  refine (hform _).mono ?_
  rintro e w1 ⟨rfl, hb1⟩
  have h1 := h0.next hb1
  clear h0 hb1 hform
  have HH := Aside0.mk h1
  clear h1
  go_wp2_with fail
  have hkd : ∀ x : InD (Held w w.heap.size w.heap.size (.cells cs 25 (0, 0))), x.val.cell? ⟨w.heap.size, 0, none⟩ = some (.int .i64 7) := fun x => (x.ok.cell 0).trans (by rw [HCS.out]; rfl)
  have hwt : ∀ x : InD (Held w w.heap.size w.heap.size (.cells cs 25 (0, 0))), x.val.cell? ⟨w.heap.size, 1, none⟩ = some (.int .i64 wait) := fun x => (x.ok.cell 1).trans (by rw [HCS.out]; rfl)
  have cw : ∀ x : InD (Held w w.heap.size w.heap.size (.cells cs 25 (0, 0))), Calls Tryz.prog 25 #[.int .i64 7] x.val fun e w'' => e = .returned (.string (ba (wordP 7))) ∧ ∃ y : InD (Held w w.heap.size w.heap.size (.cells cs 25 (0, 0))), w'' = y.val :=
    fun x => calls_in ((word_calls 7 x.val (by decide) (by decide)).mono fun _ _ ⟨he, hw⟩ => ⟨he, by rw [hw]; exact x.ok⟩)
  have ci : ∀ x : InD (Held w w.heap.size w.heap.size (.cells cs 25 (0, 0))), Calls Tryz.prog 26 #[.int .i64 wait] x.val fun e w'' => e = .returned (.string (ba (Lib.itoa wait))) ∧ ∃ y : InD (Held w w.heap.size w.heap.size (.cells cs 25 (0, 0))), w'' = y.val :=
    fun x => calls_in ((itoa_calls wait HEA.out.wait0.1 HEA.out.wait0.2 x.val (HEA.out.laid.below x.ok.below (Nat.le_refl _))).mono fun _ _ ⟨he, hb⟩ => ⟨he, x.ok.next hb⟩)
  obtain ⟨sw, hsw⟩ : ∃ s, s = ba (wordP 7) := ⟨_, rfl⟩
  obtain ⟨si, hsi⟩ : ∃ s, s = ba (Lib.itoa wait) := ⟨_, rfl⟩
  rw [← hsw] at cw
  rw [← hsi] at ci
  have HS := Aside0.mk (And.intro hsw hsi)
  clear hsw hsi
  haveI : Nonempty (InD (Held w w.heap.size w.heap.size (.cells cs 25 (0, 0)))) := ⟨⟨_, HH.out.drew⟩⟩
  refine wp_region_class_tail (Held w w.heap.size w.heap.size (.cells cs 25 (0, 0))) 6 (by kernel_rfl) (by kernel_rfl) HH.out.drew ?_
  simp only [List.take, List.drop]
  repeat (go_big_quiet_step (first | with_reducible exact cw _ | with_reducible exact ci _))
  refine wpQuiet_nil ?_
  clear hkd hwt cw ci HH
  intro x
  obtain ⟨W, hW⟩ : ∃ W, W = x.val := ⟨_, rfl⟩
  have hWH := x.ok
  rw [← hW] at hWH ⊢
  clear hW x this
  have k0 : W.cell? ⟨w.heap.size, 0, none⟩ = some (.int .i64 7) := (hWH.cell 0).trans (by rw [HCS.out]; rfl)
  have k6 : W.cell? ⟨w.heap.size, 6, none⟩ = some (.int .i64 n) := (hWH.cell 6).trans (by rw [HCS.out]; rfl)
  have hne : ¬ w.heap.size = W.heap.size := fun h => World.new_ne W _ k0 h.symm
  have hne' : ¬ W.heap.size = w.heap.size := World.new_ne W _ k0
  have HO := Aside0.mk (own_lits W w.heap.size 9 [.string sw, .string si] hWH.size (by simp))
  have HB := Aside0.mk (show Below w.heap.size w (W.alloc (.cells #[.string sw, .string si] 9)) from hWH.below.alloc hWH.size _)
  have HWH := Aside0.mk (show Held w w.heap.size w.heap.size (.cells cs 25 (0, 0)) (W.alloc (.cells #[.string sw, .string si] 9)) from hWH.next (below_alloc (Below.refl _ _) _))
  clear hWH
  have q0 : (W.alloc (.cells #[.string sw, .string si] 9)).cell? ⟨w.heap.size, 0, none⟩ = some (.int .i64 7) := (HWH.out.cell 0).trans (by rw [HCS.out]; rfl)
  have q6 : (W.alloc (.cells #[.string sw, .string si] 9)).cell? ⟨w.heap.size, 6, none⟩ = some (.int .i64 n) := (HWH.out.cell 6).trans (by rw [HCS.out]; rfl)
  go_wp2_with fail
  have hXe : (⟨(glue 32 ([sw, si].map (·.data.toList))).toArray⟩ : ByteArray) = X := by rw [HX.out, HS.out.1, HS.out.2]; rfl
  have hJ := join_calls (xs := [sw, si]) (c := 32) HO.out (by
    have h1 := glue_len 32 ([sw, si].map (·.data.toList))
    have h2 := itoa_len wait HEA.out.wait0
    have h3 := wordP_len 7
    rw [HS.out.1, HS.out.2] at h1 ⊢
    simp only [List.map_cons, List.map_nil, List.sum_cons, List.sum_nil, ba_list] at h1 ⊢
    omega) (by simp)
  rw [hXe] at hJ
  clear hXe
  refine hJ.mono ?_
  rintro e w9 ⟨rfl, hb9⟩
  go_wp2_with fail
  go_ret2
  exact ⟨rfl, HB.out.trans (hb9.mono HB.out.size)⟩
set_option maxRecDepth 100000 in
set_option maxHeartbeats 2000000 in
theorem enc8 (wait frm dst unit : Int) (A : Option Addr) (m c : Nat) (l : List Int) (n : Int) (w : World) (HE : EvOk w wait frm dst unit A m c l n) (hf : formP 8 wait unit n m = 0) :
    Calls Tryz.prog 10 #[evV 8 wait frm dst unit A m c n] w fun e w' => e = .returned (.tuple #[.string (ba (encL 8 wait frm dst unit l n)), .int .i64 0]) ∧ Below w.heap.size w w' := by
  have hform := fun W => formed_calls 8 wait frm dst unit A m c n W
  rw [hf] at hform
  clear hf
  obtain ⟨X, hX⟩ : ∃ X, X = ba (encL 8 wait frm dst unit l n) := ⟨_, rfl⟩
  rw [← hX]
  have HX := Aside0.mk hX
  have HEA := Aside0.mk HE
  clear hX HE
  unfold evV at hform ⊢
  obtain ⟨cs, hcs⟩ : ∃ cs : Array Value, cs = #[.int .i64 8, .int .i64 wait, .int .u32 frm, .int .u32 dst, .int .i64 unit, .slice A m c, .int .i64 n] := ⟨_, rfl⟩
  have HCS := Aside0.mk hcs
  clear hcs
  go_enter Tryz.func10, Tryz.ntmps10
  go_wp2_with fail
  have h0 : Held w w.heap.size w.heap.size (.cells cs 25 (0, 0)) (w.alloc (.cells #[.int .i64 8, .int .i64 wait, .int .u32 frm, .int .u32 dst, .int .i64 unit, .slice A m c, .int .i64 n] 25)) :=
    ⟨below_alloc (Below.refl _ _) _, by rw [HCS.out]; exact heap_alloc_new w _, by simp⟩
  refine (hform _).mono ?_
  rintro e w1 ⟨rfl, hb1⟩
  have h1 := h0.next hb1
  clear h0 hb1 hform
  have HH := Aside0.mk h1
  clear h1
  go_wp2_with fail
  have hkd : ∀ x : InD (Held w w.heap.size w.heap.size (.cells cs 25 (0, 0))), x.val.cell? ⟨w.heap.size, 0, none⟩ = some (.int .i64 8) := fun x => (x.ok.cell 0).trans (by rw [HCS.out]; rfl)
  have hwt : ∀ x : InD (Held w w.heap.size w.heap.size (.cells cs 25 (0, 0))), x.val.cell? ⟨w.heap.size, 1, none⟩ = some (.int .i64 wait) := fun x => (x.ok.cell 1).trans (by rw [HCS.out]; rfl)
  have cw : ∀ x : InD (Held w w.heap.size w.heap.size (.cells cs 25 (0, 0))), Calls Tryz.prog 25 #[.int .i64 8] x.val fun e w'' => e = .returned (.string (ba (wordP 8))) ∧ ∃ y : InD (Held w w.heap.size w.heap.size (.cells cs 25 (0, 0))), w'' = y.val :=
    fun x => calls_in ((word_calls 8 x.val (by decide) (by decide)).mono fun _ _ ⟨he, hw⟩ => ⟨he, by rw [hw]; exact x.ok⟩)
  have ci : ∀ x : InD (Held w w.heap.size w.heap.size (.cells cs 25 (0, 0))), Calls Tryz.prog 26 #[.int .i64 wait] x.val fun e w'' => e = .returned (.string (ba (Lib.itoa wait))) ∧ ∃ y : InD (Held w w.heap.size w.heap.size (.cells cs 25 (0, 0))), w'' = y.val :=
    fun x => calls_in ((itoa_calls wait HEA.out.wait0.1 HEA.out.wait0.2 x.val (HEA.out.laid.below x.ok.below (Nat.le_refl _))).mono fun _ _ ⟨he, hb⟩ => ⟨he, x.ok.next hb⟩)
  obtain ⟨sw, hsw⟩ : ∃ s, s = ba (wordP 8) := ⟨_, rfl⟩
  obtain ⟨si, hsi⟩ : ∃ s, s = ba (Lib.itoa wait) := ⟨_, rfl⟩
  rw [← hsw] at cw
  rw [← hsi] at ci
  have HS := Aside0.mk (And.intro hsw hsi)
  clear hsw hsi
  haveI : Nonempty (InD (Held w w.heap.size w.heap.size (.cells cs 25 (0, 0)))) := ⟨⟨_, HH.out.drew⟩⟩
  refine wp_region_class_tail (Held w w.heap.size w.heap.size (.cells cs 25 (0, 0))) 6 (by kernel_rfl) (by kernel_rfl) HH.out.drew ?_
  simp only [List.take, List.drop]
  repeat (go_big_quiet_step (first | with_reducible exact cw _ | with_reducible exact ci _))
  refine wpQuiet_nil ?_
  clear hkd hwt cw ci HH
  intro x
  obtain ⟨W, hW⟩ : ∃ W, W = x.val := ⟨_, rfl⟩
  have hWH := x.ok
  rw [← hW] at hWH ⊢
  clear hW x this
  have k0 : W.cell? ⟨w.heap.size, 0, none⟩ = some (.int .i64 8) := (hWH.cell 0).trans (by rw [HCS.out]; rfl)
  have k6 : W.cell? ⟨w.heap.size, 6, none⟩ = some (.int .i64 n) := (hWH.cell 6).trans (by rw [HCS.out]; rfl)
  have hne : ¬ w.heap.size = W.heap.size := fun h => World.new_ne W _ k0 h.symm
  have hne' : ¬ W.heap.size = w.heap.size := World.new_ne W _ k0
  have HO := Aside0.mk (own_lits W w.heap.size 9 [.string sw, .string si] hWH.size (by simp))
  have HB := Aside0.mk (show Below w.heap.size w (W.alloc (.cells #[.string sw, .string si] 9)) from hWH.below.alloc hWH.size _)
  have HWH := Aside0.mk (show Held w w.heap.size w.heap.size (.cells cs 25 (0, 0)) (W.alloc (.cells #[.string sw, .string si] 9)) from hWH.next (below_alloc (Below.refl _ _) _))
  clear hWH
  have q0 : (W.alloc (.cells #[.string sw, .string si] 9)).cell? ⟨w.heap.size, 0, none⟩ = some (.int .i64 8) := (HWH.out.cell 0).trans (by rw [HCS.out]; rfl)
  have q6 : (W.alloc (.cells #[.string sw, .string si] 9)).cell? ⟨w.heap.size, 6, none⟩ = some (.int .i64 n) := (HWH.out.cell 6).trans (by rw [HCS.out]; rfl)
  go_wp2_with fail
  refine (itoa_calls n HEA.out.n0.1 HEA.out.n0.2 _ (HEA.out.laid.on HB.out)).mono ?_
  rintro e w7 ⟨rfl, hb7⟩
  have HO7 := Aside0.mk (pw_own_below HO.out hb7)
  have HB7 := Aside0.mk (show Below w.heap.size w w7 from HB.out.trans (hb7.mono HB.out.size))
  clear HO HB HWH hb7 k0 k6 q0 q6 hne hne'
  obtain ⟨s0, hs0⟩ : ∃ s, s = (⟨(Lib.itoa n).toArray⟩ : ByteArray) := ⟨_, rfl⟩
  rw [← hs0]
  have HS0 := Aside0.mk (show s0 = ba (Lib.itoa n) from hs0)
  clear hs0
  go_wp2_with (refine gate_builtin (b := .append) rfl ?_; go_must ((refine append_lits (w0 := w) w.heap.size rfl (.tmp 60) (.tmp 64) 44 9 (.string ⟨#[]⟩) 16 rfl Tryz.underlying44 str_info rfl (by decide) _ 2 [.string sw, .string si] [.string s0] rfl rfl (by intro u hu; simp at hu; subst hu; rfl) HO7.out HB7.out HB7.out.size (by simp) ?_; intro v1 w8 hown hb8 hg hat)))
  have hXe : (⟨(glue 32 ([sw, si, s0].map (·.data.toList))).toArray⟩ : ByteArray) = X := by rw [HX.out, HS.out.1, HS.out.2, HS0.out]; rfl
  have hJ := join_calls (xs := [sw, si, s0]) (c := 32) hown (by
    have h1 := glue_len 32 ([sw, si, s0].map (·.data.toList))
    have h2 := itoa_len wait HEA.out.wait0
    have h4 := itoa_len n HEA.out.n0
    have h3 := wordP_len 8
    rw [HS.out.1, HS.out.2, HS0.out] at h1 ⊢
    simp only [List.map_cons, List.map_nil, List.sum_cons, List.sum_nil, ba_list] at h1 ⊢
    omega) (by simp)
  rw [hXe] at hJ
  clear hXe
  refine hJ.mono ?_
  rintro e w9 ⟨rfl, hb9⟩
  go_wp2_with fail
  go_ret2
  exact ⟨rfl, hb8.trans (hb9.mono hb8.size)⟩
end Go.Proofs.YtdndmbcejoodpaaGreatDoor
