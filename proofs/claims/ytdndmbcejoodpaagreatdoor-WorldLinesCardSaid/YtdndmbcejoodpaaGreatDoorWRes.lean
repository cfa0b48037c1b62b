/- Both decoders as one contract. -/
import Derived.Test.YtdndmbcejoodpaaGreatDoorWRDec
import Derived.Test.YtdndmbcejoodpaaGreatDoorPsameEventx1
namespace Go.Proofs.YtdndmbcejoodpaaGreatDoor
open Go.RowKit Go.Proofs.YtdndmbcejoodpaaGreatDoorW.PrintWords Go.Proofs.YtdndmbcejoodpaaGreatDoorW.PrintLast Go.Proofs.YtdndmbcejoodpaaGreatDoorW.PrintMore
set_option linter.unusedVariables false
set_option linter.unusedSimpArgs false
def outV (k dst : Int) (A : Option Addr) (m c : Nat) (name : ByteArray) (span freq : Int) : Value := .agg #[.int .i64 k, .int .u32 dst, .slice A m c, .string name, .int .i64 span, .int .i64 freq]
def outP (k dst : Int) (l : List Int) (name : ByteArray) (span freq : Int) : ByteArray :=
  if k = 1 then (⟨#[112, 97, 99, 107, 101, 116, 32]⟩ : ByteArray) ++ ba (printP dst) ++ ⟨#[32]⟩ ++ ba (dataP l) else if k = 2 then ⟨#[115, 116, 101, 112, 32]⟩ ++ ba (Lib.itoa span) else if k = 3 then ⟨#[115, 108, 101, 119, 32]⟩ ++ ba (Lib.itoa span) else if k = 4 then ⟨#[102, 114, 101, 113, 32]⟩ ++ ba (Lib.itoa freq)
  else if k = 5 then ⟨#[102, 105, 108, 101, 32]⟩ ++ name ++ ⟨#[32]⟩ ++ ba (dataP l) else if k = 6 then ⟨#[109, 111, 118, 101, 32]⟩ ++ name ++ ⟨#[32]⟩ ++ ba (dataP l) else if k = 7 then ⟨#[112, 97, 110, 105, 99]⟩ else ⟨#[63]⟩
structure OutOk (w : World) (dst : Int) (A : Option Addr) (m c : Nat) (l : List Int) (name : ByteArray) (span freq : Int) : Prop where
  laid : Laid w
  reads : Kd.C (Kd.int .u8) w A m l
  bytes : ∀ b ∈ l, 0 ≤ b ∧ b < 256
  small : m ≤ 1048576
  dst0 : 0 ≤ dst ∧ dst < 4294967296
  name0 : name.size ≤ 1048576
  span0 : -9223372036854775808 ≤ span ∧ span ≤ 9223372036854775807
  freq0 : -9223372036854775808 ≤ freq ∧ freq ≤ 9223372036854775807
theorem format_calls (n : Int) (h0 : -9223372036854775808 ≤ n) (h1 : n ≤ 9223372036854775807) (w : World) (HV : Laid w) :
    Calls Tryz.prog 43 #[.int .i64 n, .int .i64 10] w fun e w' => e = .returned (.string (ba (Lib.itoa n))) ∧ Below w.heap.size w w' :=
  (Tryz.strconv_FormatInt_10 n h0 h1 w HV.tab).mono fun _ _ ⟨he, k, os, hw⟩ => ⟨he, by rw [hw]; exact ⟨rfl, rfl, rfl, by simp [Go.Sort.grow, World.drewN], fun i hi => by simp only [Go.Sort.grow, World.drewN]; rw [Array.getElem?_append_left hi]⟩⟩
theorem number19_below (n : Int) (h0 : -9223372036854775808 ≤ n) (h1 : n ≤ 9223372036854775807) (w : World) :
    Calls Tryz.prog 31 #[.int .i64 n] w fun e w' => e = .returned (.string (ba (Lib.itoa n))) ∧ Below w.heap.size w w' := by
  refine (number19_calls n h0 h1 w).mono ?_
  rintro e w' ⟨rfl, q, rfl⟩
  exact ⟨rfl, pw_below_drewN (Below.refl _ _) q⟩
set_option maxRecDepth 100000 in
set_option maxHeartbeats 2000000 in
theorem wout1 (dst : Int) (A : Option Addr) (m c : Nat) (l : List Int) (name : ByteArray) (span freq : Int) (w : World) (HE : OutOk w dst A m c l name span freq) :
    Calls Tryz.prog 15 #[outV 1 dst A m c name span freq] w fun e w' => e = .returned (.string (outP 1 dst l name span freq)) ∧ Below w.heap.size w w' := by
  have hX : outP 1 dst l name span freq = (⟨#[112, 97, 99, 107, 101, 116, 32]⟩ : ByteArray) ++ ba (printP dst) ++ ⟨#[32]⟩ ++ ba (dataP l) := by unfold outP; simp
  rw [hX]
  clear hX
  have HEA := Aside0.mk HE
  have s6 : (ba (dataP l)).size ≤ 2097153 := by have h1 := dataP_len l; have h2 : l.length = m := HE.reads.1; have h3 := HE.small; simp [ba, ByteArray.size]; omega
  have s4 : (ba (printP dst)).size ≤ 43 := by simpa [ba, ByteArray.size] using print_len dst
  have sn := HE.name0
  clear HE
  obtain ⟨cs, hcs⟩ : ∃ cs : Array Value, cs = #[.int .i64 1, .int .u32 dst, .slice A m c, .string name, .int .i64 span, .int .i64 freq] := ⟨_, rfl⟩
  have HCS := Aside0.mk hcs
  have h0 : Held w w.heap.size w.heap.size (.cells cs 36 (0, 0)) (w.alloc (.cells #[.int .i64 1, .int .u32 dst, .slice A m c, .string name, .int .i64 span, .int .i64 freq] 36)) :=
    ⟨below_alloc (Below.refl _ _) _, by rw [hcs]; exact heap_alloc_new w _, by simp⟩
  have HH := Aside0.mk h0
  clear h0 hcs
  have k0 : ∀ x : InD (Held w w.heap.size w.heap.size (.cells cs 36 (0, 0))), x.val.cell? ⟨w.heap.size, 0, none⟩ = some (.int .i64 1) := fun x => (x.ok.cell 0).trans (by rw [HCS.out]; rfl)
  have k1 : ∀ x : InD (Held w w.heap.size w.heap.size (.cells cs 36 (0, 0))), x.val.cell? ⟨w.heap.size, 1, none⟩ = some (.int .u32 dst) := fun x => (x.ok.cell 1).trans (by rw [HCS.out]; rfl)
  have k2 : ∀ x : InD (Held w w.heap.size w.heap.size (.cells cs 36 (0, 0))), x.val.cell? ⟨w.heap.size, 2, none⟩ = some (.slice A m c) := fun x => (x.ok.cell 2).trans (by rw [HCS.out]; rfl)
  have k3 : ∀ x : InD (Held w w.heap.size w.heap.size (.cells cs 36 (0, 0))), x.val.cell? ⟨w.heap.size, 3, none⟩ = some (.string name) := fun x => (x.ok.cell 3).trans (by rw [HCS.out]; rfl)
  have ca : ∀ x : InD (Held w w.heap.size w.heap.size (.cells cs 36 (0, 0))), Calls Tryz.prog 27 #[.int .u32 dst] x.val fun e w'' => e = .returned (.string (ba (printP dst))) ∧ ∃ y : InD (Held w w.heap.size w.heap.size (.cells cs 36 (0, 0))), w'' = y.val :=
    fun x => calls_in ((printAddr_calls dst HEA.out.dst0.1 HEA.out.dst0.2 x.val (HEA.out.laid.on x.ok.below)).mono fun _ _ ⟨he, hb⟩ => ⟨he, x.ok.next hb⟩)
  have cd : ∀ x : InD (Held w w.heap.size w.heap.size (.cells cs 36 (0, 0))), Calls Tryz.prog 28 #[.slice A m c] x.val fun e w'' => e = .returned (.string (ba (dataP l))) ∧ ∃ y : InD (Held w w.heap.size w.heap.size (.cells cs 36 (0, 0))), w'' = y.val :=
    fun x => calls_in ((data_calls A m c l x.val (Kd.C_below HEA.out.reads x.ok.below) HEA.out.bytes HEA.out.small).mono fun _ _ ⟨he, hb⟩ => ⟨he, x.ok.next hb⟩)
  generalize ba (printP dst) = Y4 at ca s4 ⊢
  generalize ba (dataP l) = Y6 at cd s6 ⊢
  unfold outV
  go_enter Tryz.func15, Tryz.ntmps15
  go_wp2_with fail
  haveI : Nonempty (InD (Held w w.heap.size w.heap.size (.cells cs 36 (0, 0)))) := ⟨⟨_, HH.out.drew⟩⟩
  refine wp_region_class (Held w w.heap.size w.heap.size (.cells cs 36 (0, 0))) (by kernel_rfl) (by kernel_rfl) HH.out.drew ?_
  repeat (go_big_quiet_step (first | with_reducible exact ca _ | with_reducible exact cd _))
  refine wpQuiet_nil ?_
  clear k0 k1 k2 k3 ca cd HH
  intro x
  obtain ⟨W, hW⟩ : ∃ W, W = x.val := ⟨_, rfl⟩
  have hWH := x.ok
  rw [← hW] at hWH ⊢
  clear hW x this
  have hb := hWH.below
  clear hWH
  go_wp2_with fail
  go_ret
  exact ⟨rfl, hb⟩
set_option maxRecDepth 100000 in
set_option maxHeartbeats 2000000 in
theorem wout2 (dst : Int) (A : Option Addr) (m c : Nat) (l : List Int) (name : ByteArray) (span freq : Int) (w : World) (HE : OutOk w dst A m c l name span freq) :
    Calls Tryz.prog 15 #[outV 2 dst A m c name span freq] w fun e w' => e = .returned (.string (outP 2 dst l name span freq)) ∧ Below w.heap.size w w' := by
  have hX : outP 2 dst l name span freq = (⟨#[115, 116, 101, 112, 32]⟩ : ByteArray) ++ ba (Lib.itoa span) := by unfold outP; simp
  rw [hX]
  clear hX
  have HEA := Aside0.mk HE
  have hnum := fun W (hW : Laid W) => format_calls span HE.span0.1 HE.span0.2 W hW
  have s1 : (ba (Lib.itoa span)).size ≤ 21 := by simpa [ba, ByteArray.size] using itoa_len span HE.span0
  clear HE
  generalize ba (Lib.itoa span) = Y at hnum s1 ⊢
  unfold outV
  go_enter Tryz.func15, Tryz.ntmps15
  go_wp2_with ((with_reducible refine (hnum _ (HEA.out.laid.on (below_alloc (Below.refl _ _) _))).mono ?_); rintro e w1 ⟨rfl, hb⟩)
  go_ret
  exact ⟨rfl, (below_alloc (Below.refl _ _) _).trans (hb.mono (by simp))⟩
set_option maxRecDepth 100000 in
set_option maxHeartbeats 2000000 in
theorem wout3 (dst : Int) (A : Option Addr) (m c : Nat) (l : List Int) (name : ByteArray) (span freq : Int) (w : World) (HE : OutOk w dst A m c l name span freq) :
    Calls Tryz.prog 15 #[outV 3 dst A m c name span freq] w fun e w' => e = .returned (.string (outP 3 dst l name span freq)) ∧ Below w.heap.size w w' := by
  have hX : outP 3 dst l name span freq = (⟨#[115, 108, 101, 119, 32]⟩ : ByteArray) ++ ba (Lib.itoa span) := by unfold outP; simp
  rw [hX]
  clear hX
  have HEA := Aside0.mk HE
  have hnum := fun W (hW : Laid W) => format_calls span HE.span0.1 HE.span0.2 W hW
  have s1 : (ba (Lib.itoa span)).size ≤ 21 := by simpa [ba, ByteArray.size] using itoa_len span HE.span0
  clear HE
  generalize ba (Lib.itoa span) = Y at hnum s1 ⊢
  unfold outV
  go_enter Tryz.func15, Tryz.ntmps15
  go_wp2_with ((with_reducible refine (hnum _ (HEA.out.laid.on (below_alloc (Below.refl _ _) _))).mono ?_); rintro e w1 ⟨rfl, hb⟩)
  go_ret
  exact ⟨rfl, (below_alloc (Below.refl _ _) _).trans (hb.mono (by simp))⟩
set_option maxRecDepth 100000 in
set_option maxHeartbeats 2000000 in
theorem wout4 (dst : Int) (A : Option Addr) (m c : Nat) (l : List Int) (name : ByteArray) (span freq : Int) (w : World) (HE : OutOk w dst A m c l name span freq) :
    Calls Tryz.prog 15 #[outV 4 dst A m c name span freq] w fun e w' => e = .returned (.string (outP 4 dst l name span freq)) ∧ Below w.heap.size w w' := by
  have hX : outP 4 dst l name span freq = (⟨#[102, 114, 101, 113, 32]⟩ : ByteArray) ++ ba (Lib.itoa freq) := by unfold outP; simp
  rw [hX]
  clear hX
  have HEA := Aside0.mk HE
  have hnum := fun W (hW : Laid W) => format_calls freq HE.freq0.1 HE.freq0.2 W hW
  have s1 : (ba (Lib.itoa freq)).size ≤ 21 := by simpa [ba, ByteArray.size] using itoa_len freq HE.freq0
  clear HE
  generalize ba (Lib.itoa freq) = Y at hnum s1 ⊢
  unfold outV
  go_enter Tryz.func15, Tryz.ntmps15
  go_wp2_with ((with_reducible refine (hnum _ (HEA.out.laid.on (below_alloc (Below.refl _ _) _))).mono ?_); rintro e w1 ⟨rfl, hb⟩)
  go_ret
  exact ⟨rfl, (below_alloc (Below.refl _ _) _).trans (hb.mono (by simp))⟩
set_option maxRecDepth 100000 in
set_option maxHeartbeats 2000000 in
theorem wout5 (dst : Int) (A : Option Addr) (m c : Nat) (l : List Int) (name : ByteArray) (span freq : Int) (w : World) (HE : OutOk w dst A m c l name span freq) :
    Calls Tryz.prog 15 #[outV 5 dst A m c name span freq] w fun e w' => e = .returned (.string (outP 5 dst l name span freq)) ∧ Below w.heap.size w w' := by
  have hX : outP 5 dst l name span freq = (⟨#[102, 105, 108, 101, 32]⟩ : ByteArray) ++ name ++ ⟨#[32]⟩ ++ ba (dataP l) := by unfold outP; simp
  rw [hX]
  clear hX
  have HEA := Aside0.mk HE
  have s6 : (ba (dataP l)).size ≤ 2097153 := by have h1 := dataP_len l; have h2 : l.length = m := HE.reads.1; have h3 := HE.small; simp [ba, ByteArray.size]; omega
  have s4 : (ba (printP dst)).size ≤ 43 := by simpa [ba, ByteArray.size] using print_len dst
  have sn := HE.name0
  clear HE
  obtain ⟨cs, hcs⟩ : ∃ cs : Array Value, cs = #[.int .i64 5, .int .u32 dst, .slice A m c, .string name, .int .i64 span, .int .i64 freq] := ⟨_, rfl⟩
  have HCS := Aside0.mk hcs
  have h0 : Held w w.heap.size w.heap.size (.cells cs 36 (0, 0)) (w.alloc (.cells #[.int .i64 5, .int .u32 dst, .slice A m c, .string name, .int .i64 span, .int .i64 freq] 36)) :=
    ⟨below_alloc (Below.refl _ _) _, by rw [hcs]; exact heap_alloc_new w _, by simp⟩
  have HH := Aside0.mk h0
  clear h0 hcs
  have k0 : ∀ x : InD (Held w w.heap.size w.heap.size (.cells cs 36 (0, 0))), x.val.cell? ⟨w.heap.size, 0, none⟩ = some (.int .i64 5) := fun x => (x.ok.cell 0).trans (by rw [HCS.out]; rfl)
  have k1 : ∀ x : InD (Held w w.heap.size w.heap.size (.cells cs 36 (0, 0))), x.val.cell? ⟨w.heap.size, 1, none⟩ = some (.int .u32 dst) := fun x => (x.ok.cell 1).trans (by rw [HCS.out]; rfl)
  have k2 : ∀ x : InD (Held w w.heap.size w.heap.size (.cells cs 36 (0, 0))), x.val.cell? ⟨w.heap.size, 2, none⟩ = some (.slice A m c) := fun x => (x.ok.cell 2).trans (by rw [HCS.out]; rfl)
  have k3 : ∀ x : InD (Held w w.heap.size w.heap.size (.cells cs 36 (0, 0))), x.val.cell? ⟨w.heap.size, 3, none⟩ = some (.string name) := fun x => (x.ok.cell 3).trans (by rw [HCS.out]; rfl)
  have ca : ∀ x : InD (Held w w.heap.size w.heap.size (.cells cs 36 (0, 0))), Calls Tryz.prog 27 #[.int .u32 dst] x.val fun e w'' => e = .returned (.string (ba (printP dst))) ∧ ∃ y : InD (Held w w.heap.size w.heap.size (.cells cs 36 (0, 0))), w'' = y.val :=
    fun x => calls_in ((printAddr_calls dst HEA.out.dst0.1 HEA.out.dst0.2 x.val (HEA.out.laid.on x.ok.below)).mono fun _ _ ⟨he, hb⟩ => ⟨he, x.ok.next hb⟩)
  have cd : ∀ x : InD (Held w w.heap.size w.heap.size (.cells cs 36 (0, 0))), Calls Tryz.prog 28 #[.slice A m c] x.val fun e w'' => e = .returned (.string (ba (dataP l))) ∧ ∃ y : InD (Held w w.heap.size w.heap.size (.cells cs 36 (0, 0))), w'' = y.val :=
    fun x => calls_in ((data_calls A m c l x.val (Kd.C_below HEA.out.reads x.ok.below) HEA.out.bytes HEA.out.small).mono fun _ _ ⟨he, hb⟩ => ⟨he, x.ok.next hb⟩)
  generalize ba (printP dst) = Y4 at ca s4 ⊢
  generalize ba (dataP l) = Y6 at cd s6 ⊢
  unfold outV
  go_enter Tryz.func15, Tryz.ntmps15
  go_wp2_with fail
  haveI : Nonempty (InD (Held w w.heap.size w.heap.size (.cells cs 36 (0, 0)))) := ⟨⟨_, HH.out.drew⟩⟩
  refine wp_region_class (Held w w.heap.size w.heap.size (.cells cs 36 (0, 0))) (by kernel_rfl) (by kernel_rfl) HH.out.drew ?_
  repeat (go_big_quiet_step (first | with_reducible exact ca _ | with_reducible exact cd _))
  refine wpQuiet_nil ?_
  clear k0 k1 k2 k3 ca cd HH
  intro x
  obtain ⟨W, hW⟩ : ∃ W, W = x.val := ⟨_, rfl⟩
  have hWH := x.ok
  rw [← hW] at hWH ⊢
  clear hW x this
  have hb := hWH.below
  clear hWH
  go_wp2_with fail
  go_ret
  exact ⟨rfl, hb⟩
set_option maxRecDepth 100000 in
set_option maxHeartbeats 2000000 in
theorem wout6 (dst : Int) (A : Option Addr) (m c : Nat) (l : List Int) (name : ByteArray) (span freq : Int) (w : World) (HE : OutOk w dst A m c l name span freq) :
    Calls Tryz.prog 15 #[outV 6 dst A m c name span freq] w fun e w' => e = .returned (.string (outP 6 dst l name span freq)) ∧ Below w.heap.size w w' := by
  have hX : outP 6 dst l name span freq = (⟨#[109, 111, 118, 101, 32]⟩ : ByteArray) ++ name ++ ⟨#[32]⟩ ++ ba (dataP l) := by unfold outP; simp
  rw [hX]
  clear hX
  have HEA := Aside0.mk HE
  have s6 : (ba (dataP l)).size ≤ 2097153 := by have h1 := dataP_len l; have h2 : l.length = m := HE.reads.1; have h3 := HE.small; simp [ba, ByteArray.size]; omega
  have s4 : (ba (printP dst)).size ≤ 43 := by simpa [ba, ByteArray.size] using print_len dst
  have sn := HE.name0
  clear HE
  obtain ⟨cs, hcs⟩ : ∃ cs : Array Value, cs = #[.int .i64 6, .int .u32 dst, .slice A m c, .string name, .int .i64 span, .int .i64 freq] := ⟨_, rfl⟩
  have HCS := Aside0.mk hcs
  have h0 : Held w w.heap.size w.heap.size (.cells cs 36 (0, 0)) (w.alloc (.cells #[.int .i64 6, .int .u32 dst, .slice A m c, .string name, .int .i64 span, .int .i64 freq] 36)) :=
    ⟨below_alloc (Below.refl _ _) _, by rw [hcs]; exact heap_alloc_new w _, by simp⟩
  have HH := Aside0.mk h0
  clear h0 hcs
  have k0 : ∀ x : InD (Held w w.heap.size w.heap.size (.cells cs 36 (0, 0))), x.val.cell? ⟨w.heap.size, 0, none⟩ = some (.int .i64 6) := fun x => (x.ok.cell 0).trans (by rw [HCS.out]; rfl)
  have k1 : ∀ x : InD (Held w w.heap.size w.heap.size (.cells cs 36 (0, 0))), x.val.cell? ⟨w.heap.size, 1, none⟩ = some (.int .u32 dst) := fun x => (x.ok.cell 1).trans (by rw [HCS.out]; rfl)
  have k2 : ∀ x : InD (Held w w.heap.size w.heap.size (.cells cs 36 (0, 0))), x.val.cell? ⟨w.heap.size, 2, none⟩ = some (.slice A m c) := fun x => (x.ok.cell 2).trans (by rw [HCS.out]; rfl)
  have k3 : ∀ x : InD (Held w w.heap.size w.heap.size (.cells cs 36 (0, 0))), x.val.cell? ⟨w.heap.size, 3, none⟩ = some (.string name) := fun x => (x.ok.cell 3).trans (by rw [HCS.out]; rfl)
  have ca : ∀ x : InD (Held w w.heap.size w.heap.size (.cells cs 36 (0, 0))), Calls Tryz.prog 27 #[.int .u32 dst] x.val fun e w'' => e = .returned (.string (ba (printP dst))) ∧ ∃ y : InD (Held w w.heap.size w.heap.size (.cells cs 36 (0, 0))), w'' = y.val :=
    fun x => calls_in ((printAddr_calls dst HEA.out.dst0.1 HEA.out.dst0.2 x.val (HEA.out.laid.on x.ok.below)).mono fun _ _ ⟨he, hb⟩ => ⟨he, x.ok.next hb⟩)
  have cd : ∀ x : InD (Held w w.heap.size w.heap.size (.cells cs 36 (0, 0))), Calls Tryz.prog 28 #[.slice A m c] x.val fun e w'' => e = .returned (.string (ba (dataP l))) ∧ ∃ y : InD (Held w w.heap.size w.heap.size (.cells cs 36 (0, 0))), w'' = y.val :=
    fun x => calls_in ((data_calls A m c l x.val (Kd.C_below HEA.out.reads x.ok.below) HEA.out.bytes HEA.out.small).mono fun _ _ ⟨he, hb⟩ => ⟨he, x.ok.next hb⟩)
  generalize ba (printP dst) = Y4 at ca s4 ⊢
  generalize ba (dataP l) = Y6 at cd s6 ⊢
  unfold outV
  go_enter Tryz.func15, Tryz.ntmps15
  go_wp2_with fail
  haveI : Nonempty (InD (Held w w.heap.size w.heap.size (.cells cs 36 (0, 0)))) := ⟨⟨_, HH.out.drew⟩⟩
  refine wp_region_class (Held w w.heap.size w.heap.size (.cells cs 36 (0, 0))) (by kernel_rfl) (by kernel_rfl) HH.out.drew ?_
  repeat (go_big_quiet_step (first | with_reducible exact ca _ | with_reducible exact cd _))
  refine wpQuiet_nil ?_
  clear k0 k1 k2 k3 ca cd HH
  intro x
  obtain ⟨W, hW⟩ : ∃ W, W = x.val := ⟨_, rfl⟩
  have hWH := x.ok
  rw [← hW] at hWH ⊢
  clear hW x this
  have hb := hWH.below
  clear hWH
  go_wp2_with fail
  go_ret
  exact ⟨rfl, hb⟩
set_option maxRecDepth 100000 in
set_option maxHeartbeats 2000000 in
theorem wout7 (dst : Int) (A : Option Addr) (m c : Nat) (l : List Int) (name : ByteArray) (span freq : Int) (w : World) (HE : OutOk w dst A m c l name span freq) :
    Calls Tryz.prog 15 #[outV 7 dst A m c name span freq] w fun e w' => e = .returned (.string (outP 7 dst l name span freq)) ∧ Below w.heap.size w w' := by
  have hX : outP 7 dst l name span freq = (⟨#[112, 97, 110, 105, 99]⟩ : ByteArray) := by unfold outP; simp
  rw [hX]
  clear hX
  have HEA := Aside0.mk HE
  clear HE
  unfold outV
  go_enter Tryz.func15, Tryz.ntmps15
  go_wp2_with fail
  go_ret
  exact ⟨rfl, below_alloc (Below.refl _ _) _⟩
set_option maxRecDepth 100000 in
set_option maxHeartbeats 2000000 in
theorem wout0 (k : Int) (dst : Int) (A : Option Addr) (m c : Nat) (l : List Int) (name : ByteArray) (span freq : Int) (w : World) (HE : OutOk w dst A m c l name span freq) (n1 : k ≠ 1) (n2 : k ≠ 2) (n3 : k ≠ 3) (n4 : k ≠ 4) (n5 : k ≠ 5) (n6 : k ≠ 6) (n7 : k ≠ 7) :
    Calls Tryz.prog 15 #[outV k dst A m c name span freq] w fun e w' => e = .returned (.string (outP k dst l name span freq)) ∧ Below w.heap.size w w' := by
  have hX : outP k dst l name span freq = (⟨#[63]⟩ : ByteArray) := by unfold outP; simp [n1, n2, n3, n4, n5, n6, n7]
  rw [hX]
  clear hX
  have HEA := Aside0.mk HE
  have e1 : (k == 1) = false := beq_eq_false_iff_ne.2 n1
  have e2 : (k == 2) = false := beq_eq_false_iff_ne.2 n2
  have e3 : (k == 3) = false := beq_eq_false_iff_ne.2 n3
  have e4 : (k == 4) = false := beq_eq_false_iff_ne.2 n4
  have e5 : (k == 5) = false := beq_eq_false_iff_ne.2 n5
  have e6 : (k == 6) = false := beq_eq_false_iff_ne.2 n6
  have e7 : (k == 7) = false := beq_eq_false_iff_ne.2 n7
  clear n1 n2 n3 n4 n5 n6 n7
  clear HE
  unfold outV
  go_enter Tryz.func15, Tryz.ntmps15
  go_wp2_with fail
  go_ret
  exact ⟨rfl, below_alloc (Below.refl _ _) _⟩
theorem wout_calls (k dst : Int) (A : Option Addr) (m c : Nat) (l : List Int) (name : ByteArray) (span freq : Int) (w : World) (HE : OutOk w dst A m c l name span freq) :
    Calls Tryz.prog 15 #[outV k dst A m c name span freq] w fun e w' => e = .returned (.string (outP k dst l name span freq)) ∧ Below w.heap.size w w' := by
  by_cases n1 : k = 1
  · subst n1; exact wout1 dst A m c l name span freq w HE
  by_cases n2 : k = 2
  · subst n2; exact wout2 dst A m c l name span freq w HE
  by_cases n3 : k = 3
  · subst n3; exact wout3 dst A m c l name span freq w HE
  by_cases n4 : k = 4
  · subst n4; exact wout4 dst A m c l name span freq w HE
  by_cases n5 : k = 5
  · subst n5; exact wout5 dst A m c l name span freq w HE
  by_cases n6 : k = 6
  · subst n6; exact wout6 dst A m c l name span freq w HE
  by_cases n7 : k = 7
  · subst n7; exact wout7 dst A m c l name span freq w HE
  exact wout0 k dst A m c l name span freq w HE n1 n2 n3 n4 n5 n6 n7
set_option maxRecDepth 100000 in
set_option maxHeartbeats 2000000 in
theorem rout1 (dst : Int) (A : Option Addr) (m c : Nat) (l : List Int) (name : ByteArray) (span freq : Int) (w : World) (HE : OutOk w dst A m c l name span freq) :
    Calls Tryz.prog 16 #[outV 1 dst A m c name span freq] w fun e w' => e = .returned (.string (outP 1 dst l name span freq)) ∧ Below w.heap.size w w' := by
  have hX : outP 1 dst l name span freq = (⟨#[112, 97, 99, 107, 101, 116, 32]⟩ : ByteArray) ++ ba (printP dst) ++ ⟨#[32]⟩ ++ ba (dataP l) := by unfold outP; simp
  rw [hX]
  clear hX
  have HEA := Aside0.mk HE
  have s6 : (ba (dataP l)).size ≤ 2097153 := by have h1 := dataP_len l; have h2 : l.length = m := HE.reads.1; have h3 := HE.small; simp [ba, ByteArray.size]; omega
  have s4 : (ba (printP dst)).size ≤ 43 := by simpa [ba, ByteArray.size] using print_len dst
  have sn := HE.name0
  clear HE
  obtain ⟨cs, hcs⟩ : ∃ cs : Array Value, cs = #[.int .i64 1, .int .u32 dst, .slice A m c, .string name, .int .i64 span, .int .i64 freq] := ⟨_, rfl⟩
  have HCS := Aside0.mk hcs
  have h0 : Held w w.heap.size w.heap.size (.cells cs 36 (0, 0)) (w.alloc (.cells #[.int .i64 1, .int .u32 dst, .slice A m c, .string name, .int .i64 span, .int .i64 freq] 36)) :=
    ⟨below_alloc (Below.refl _ _) _, by rw [hcs]; exact heap_alloc_new w _, by simp⟩
  have HH := Aside0.mk h0
  clear h0 hcs
  have k0 : ∀ x : InD (Held w w.heap.size w.heap.size (.cells cs 36 (0, 0))), x.val.cell? ⟨w.heap.size, 0, none⟩ = some (.int .i64 1) := fun x => (x.ok.cell 0).trans (by rw [HCS.out]; rfl)
  have k1 : ∀ x : InD (Held w w.heap.size w.heap.size (.cells cs 36 (0, 0))), x.val.cell? ⟨w.heap.size, 1, none⟩ = some (.int .u32 dst) := fun x => (x.ok.cell 1).trans (by rw [HCS.out]; rfl)
  have k2 : ∀ x : InD (Held w w.heap.size w.heap.size (.cells cs 36 (0, 0))), x.val.cell? ⟨w.heap.size, 2, none⟩ = some (.slice A m c) := fun x => (x.ok.cell 2).trans (by rw [HCS.out]; rfl)
  have k3 : ∀ x : InD (Held w w.heap.size w.heap.size (.cells cs 36 (0, 0))), x.val.cell? ⟨w.heap.size, 3, none⟩ = some (.string name) := fun x => (x.ok.cell 3).trans (by rw [HCS.out]; rfl)
  have ca : ∀ x : InD (Held w w.heap.size w.heap.size (.cells cs 36 (0, 0))), Calls Tryz.prog 32 #[.int .u32 dst] x.val fun e w'' => e = .returned (.string (ba (printP dst))) ∧ ∃ y : InD (Held w w.heap.size w.heap.size (.cells cs 36 (0, 0))), w'' = y.val :=
    fun x => calls_in ((refPrint_calls dst HEA.out.dst0.1 HEA.out.dst0.2 x.val).mono fun _ _ ⟨he, hq⟩ => ⟨he, by obtain ⟨q, rfl⟩ := hq; exact x.ok.next (pw_below_drewN (Below.refl _ _) q)⟩)
  have cd : ∀ x : InD (Held w w.heap.size w.heap.size (.cells cs 36 (0, 0))), Calls Tryz.prog 33 #[.slice A m c] x.val fun e w'' => e = .returned (.string (ba (dataP l))) ∧ ∃ y : InD (Held w w.heap.size w.heap.size (.cells cs 36 (0, 0))), w'' = y.val :=
    fun x => calls_in ((refData_calls A m c l x.val (Kd.C_below HEA.out.reads x.ok.below) HEA.out.bytes HEA.out.small).mono fun _ _ ⟨he, hq⟩ => ⟨he, by obtain ⟨q, rfl⟩ := hq; exact x.ok.next (pw_below_drewN (Below.refl _ _) q)⟩)
  generalize ba (printP dst) = Y4 at ca s4 ⊢
  generalize ba (dataP l) = Y6 at cd s6 ⊢
  unfold outV
  go_enter Tryz.func16, Tryz.ntmps16
  go_wp2_with fail
  haveI : Nonempty (InD (Held w w.heap.size w.heap.size (.cells cs 36 (0, 0)))) := ⟨⟨_, HH.out.drew⟩⟩
  refine wp_region_class (Held w w.heap.size w.heap.size (.cells cs 36 (0, 0))) (by kernel_rfl) (by kernel_rfl) HH.out.drew ?_
  repeat (go_big_quiet_step (first | with_reducible exact ca _ | with_reducible exact cd _))
  refine wpQuiet_nil ?_
  clear k0 k1 k2 k3 ca cd HH
  intro x
  obtain ⟨W, hW⟩ : ∃ W, W = x.val := ⟨_, rfl⟩
  have hWH := x.ok
  rw [← hW] at hWH ⊢
  clear hW x this
  have hb := hWH.below
  clear hWH
  go_wp2_with fail
  go_ret
  exact ⟨rfl, hb⟩
set_option maxRecDepth 100000 in
set_option maxHeartbeats 2000000 in
theorem rout2 (dst : Int) (A : Option Addr) (m c : Nat) (l : List Int) (name : ByteArray) (span freq : Int) (w : World) (HE : OutOk w dst A m c l name span freq) :
    Calls Tryz.prog 16 #[outV 2 dst A m c name span freq] w fun e w' => e = .returned (.string (outP 2 dst l name span freq)) ∧ Below w.heap.size w w' := by
  have hX : outP 2 dst l name span freq = (⟨#[115, 116, 101, 112, 32]⟩ : ByteArray) ++ ba (Lib.itoa span) := by unfold outP; simp
  rw [hX]
  clear hX
  have HEA := Aside0.mk HE
  have hnum := fun W (hW : Laid W) => number19_below span HE.span0.1 HE.span0.2 W
  have s1 : (ba (Lib.itoa span)).size ≤ 21 := by simpa [ba, ByteArray.size] using itoa_len span HE.span0
  clear HE
  generalize ba (Lib.itoa span) = Y at hnum s1 ⊢
  unfold outV
  go_enter Tryz.func16, Tryz.ntmps16
  go_wp2_with ((with_reducible refine (hnum _ (HEA.out.laid.on (below_alloc (Below.refl _ _) _))).mono ?_); rintro e w1 ⟨rfl, hb⟩)
  go_ret
  exact ⟨rfl, (below_alloc (Below.refl _ _) _).trans (hb.mono (by simp))⟩
set_option maxRecDepth 100000 in
set_option maxHeartbeats 2000000 in
theorem rout3 (dst : Int) (A : Option Addr) (m c : Nat) (l : List Int) (name : ByteArray) (span freq : Int) (w : World) (HE : OutOk w dst A m c l name span freq) :
    Calls Tryz.prog 16 #[outV 3 dst A m c name span freq] w fun e w' => e = .returned (.string (outP 3 dst l name span freq)) ∧ Below w.heap.size w w' := by
  have hX : outP 3 dst l name span freq = (⟨#[115, 108, 101, 119, 32]⟩ : ByteArray) ++ ba (Lib.itoa span) := by unfold outP; simp
  rw [hX]
  clear hX
  have HEA := Aside0.mk HE
  have hnum := fun W (hW : Laid W) => number19_below span HE.span0.1 HE.span0.2 W
  have s1 : (ba (Lib.itoa span)).size ≤ 21 := by simpa [ba, ByteArray.size] using itoa_len span HE.span0
  clear HE
  generalize ba (Lib.itoa span) = Y at hnum s1 ⊢
  unfold outV
  go_enter Tryz.func16, Tryz.ntmps16
  go_wp2_with ((with_reducible refine (hnum _ (HEA.out.laid.on (below_alloc (Below.refl _ _) _))).mono ?_); rintro e w1 ⟨rfl, hb⟩)
  go_ret
  exact ⟨rfl, (below_alloc (Below.refl _ _) _).trans (hb.mono (by simp))⟩
set_option maxRecDepth 100000 in
set_option maxHeartbeats 2000000 in
theorem rout4 (dst : Int) (A : Option Addr) (m c : Nat) (l : List Int) (name : ByteArray) (span freq : Int) (w : World) (HE : OutOk w dst A m c l name span freq) :
    Calls Tryz.prog 16 #[outV 4 dst A m c name span freq] w fun e w' => e = .returned (.string (outP 4 dst l name span freq)) ∧ Below w.heap.size w w' := by
  have hX : outP 4 dst l name span freq = (⟨#[102, 114, 101, 113, 32]⟩ : ByteArray) ++ ba (Lib.itoa freq) := by unfold outP; simp
  rw [hX]
  clear hX
  have HEA := Aside0.mk HE
  have hnum := fun W (hW : Laid W) => number19_below freq HE.freq0.1 HE.freq0.2 W
  have s1 : (ba (Lib.itoa freq)).size ≤ 21 := by simpa [ba, ByteArray.size] using itoa_len freq HE.freq0
  clear HE
  generalize ba (Lib.itoa freq) = Y at hnum s1 ⊢
  unfold outV
  go_enter Tryz.func16, Tryz.ntmps16
  go_wp2_with ((with_reducible refine (hnum _ (HEA.out.laid.on (below_alloc (Below.refl _ _) _))).mono ?_); rintro e w1 ⟨rfl, hb⟩)
  go_ret
  exact ⟨rfl, (below_alloc (Below.refl _ _) _).trans (hb.mono (by simp))⟩
set_option maxRecDepth 100000 in
set_option maxHeartbeats 2000000 in
theorem rout5 (dst : Int) (A : Option Addr) (m c : Nat) (l : List Int) (name : ByteArray) (span freq : Int) (w : World) (HE : OutOk w dst A m c l name span freq) :
    Calls Tryz.prog 16 #[outV 5 dst A m c name span freq] w fun e w' => e = .returned (.string (outP 5 dst l name span freq)) ∧ Below w.heap.size w w' := by
  have hX : outP 5 dst l name span freq = (⟨#[102, 105, 108, 101, 32]⟩ : ByteArray) ++ name ++ ⟨#[32]⟩ ++ ba (dataP l) := by unfold outP; simp
  rw [hX]
  clear hX
  have HEA := Aside0.mk HE
  have s6 : (ba (dataP l)).size ≤ 2097153 := by have h1 := dataP_len l; have h2 : l.length = m := HE.reads.1; have h3 := HE.small; simp [ba, ByteArray.size]; omega
  have s4 : (ba (printP dst)).size ≤ 43 := by simpa [ba, ByteArray.size] using print_len dst
  have sn := HE.name0
  clear HE
  obtain ⟨cs, hcs⟩ : ∃ cs : Array Value, cs = #[.int .i64 5, .int .u32 dst, .slice A m c, .string name, .int .i64 span, .int .i64 freq] := ⟨_, rfl⟩
  have HCS := Aside0.mk hcs
  have h0 : Held w w.heap.size w.heap.size (.cells cs 36 (0, 0)) (w.alloc (.cells #[.int .i64 5, .int .u32 dst, .slice A m c, .string name, .int .i64 span, .int .i64 freq] 36)) :=
    ⟨below_alloc (Below.refl _ _) _, by rw [hcs]; exact heap_alloc_new w _, by simp⟩
  have HH := Aside0.mk h0
  clear h0 hcs
  have k0 : ∀ x : InD (Held w w.heap.size w.heap.size (.cells cs 36 (0, 0))), x.val.cell? ⟨w.heap.size, 0, none⟩ = some (.int .i64 5) := fun x => (x.ok.cell 0).trans (by rw [HCS.out]; rfl)
  have k1 : ∀ x : InD (Held w w.heap.size w.heap.size (.cells cs 36 (0, 0))), x.val.cell? ⟨w.heap.size, 1, none⟩ = some (.int .u32 dst) := fun x => (x.ok.cell 1).trans (by rw [HCS.out]; rfl)
  have k2 : ∀ x : InD (Held w w.heap.size w.heap.size (.cells cs 36 (0, 0))), x.val.cell? ⟨w.heap.size, 2, none⟩ = some (.slice A m c) := fun x => (x.ok.cell 2).trans (by rw [HCS.out]; rfl)
  have k3 : ∀ x : InD (Held w w.heap.size w.heap.size (.cells cs 36 (0, 0))), x.val.cell? ⟨w.heap.size, 3, none⟩ = some (.string name) := fun x => (x.ok.cell 3).trans (by rw [HCS.out]; rfl)
  have ca : ∀ x : InD (Held w w.heap.size w.heap.size (.cells cs 36 (0, 0))), Calls Tryz.prog 32 #[.int .u32 dst] x.val fun e w'' => e = .returned (.string (ba (printP dst))) ∧ ∃ y : InD (Held w w.heap.size w.heap.size (.cells cs 36 (0, 0))), w'' = y.val :=
    fun x => calls_in ((refPrint_calls dst HEA.out.dst0.1 HEA.out.dst0.2 x.val).mono fun _ _ ⟨he, hq⟩ => ⟨he, by obtain ⟨q, rfl⟩ := hq; exact x.ok.next (pw_below_drewN (Below.refl _ _) q)⟩)
  have cd : ∀ x : InD (Held w w.heap.size w.heap.size (.cells cs 36 (0, 0))), Calls Tryz.prog 33 #[.slice A m c] x.val fun e w'' => e = .returned (.string (ba (dataP l))) ∧ ∃ y : InD (Held w w.heap.size w.heap.size (.cells cs 36 (0, 0))), w'' = y.val :=
    fun x => calls_in ((refData_calls A m c l x.val (Kd.C_below HEA.out.reads x.ok.below) HEA.out.bytes HEA.out.small).mono fun _ _ ⟨he, hq⟩ => ⟨he, by obtain ⟨q, rfl⟩ := hq; exact x.ok.next (pw_below_drewN (Below.refl _ _) q)⟩)
  generalize ba (printP dst) = Y4 at ca s4 ⊢
  generalize ba (dataP l) = Y6 at cd s6 ⊢
  unfold outV
  go_enter Tryz.func16, Tryz.ntmps16
  go_wp2_with fail
  haveI : Nonempty (InD (Held w w.heap.size w.heap.size (.cells cs 36 (0, 0)))) := ⟨⟨_, HH.out.drew⟩⟩
  refine wp_region_class (Held w w.heap.size w.heap.size (.cells cs 36 (0, 0))) (by kernel_rfl) (by kernel_rfl) HH.out.drew ?_
  repeat (go_big_quiet_step (first | with_reducible exact ca _ | with_reducible exact cd _))
  refine wpQuiet_nil ?_
  clear k0 k1 k2 k3 ca cd HH
  intro x
  obtain ⟨W, hW⟩ : ∃ W, W = x.val := ⟨_, rfl⟩
  have hWH := x.ok
  rw [← hW] at hWH ⊢
  clear hW x this
  have hb := hWH.below
  clear hWH
  go_wp2_with fail
  go_ret
  exact ⟨rfl, hb⟩
set_option maxRecDepth 100000 in
set_option maxHeartbeats 2000000 in
theorem rout6 (dst : Int) (A : Option Addr) (m c : Nat) (l : List Int) (name : ByteArray) (span freq : Int) (w : World) (HE : OutOk w dst A m c l name span freq) :
    Calls Tryz.prog 16 #[outV 6 dst A m c name span freq] w fun e w' => e = .returned (.string (outP 6 dst l name span freq)) ∧ Below w.heap.size w w' := by
  have hX : outP 6 dst l name span freq = (⟨#[109, 111, 118, 101, 32]⟩ : ByteArray) ++ name ++ ⟨#[32]⟩ ++ ba (dataP l) := by unfold outP; simp
  rw [hX]
  clear hX
  have HEA := Aside0.mk HE
  have s6 : (ba (dataP l)).size ≤ 2097153 := by have h1 := dataP_len l; have h2 : l.length = m := HE.reads.1; have h3 := HE.small; simp [ba, ByteArray.size]; omega
  have s4 : (ba (printP dst)).size ≤ 43 := by simpa [ba, ByteArray.size] using print_len dst
  have sn := HE.name0
  clear HE
  obtain ⟨cs, hcs⟩ : ∃ cs : Array Value, cs = #[.int .i64 6, .int .u32 dst, .slice A m c, .string name, .int .i64 span, .int .i64 freq] := ⟨_, rfl⟩
  have HCS := Aside0.mk hcs
  have h0 : Held w w.heap.size w.heap.size (.cells cs 36 (0, 0)) (w.alloc (.cells #[.int .i64 6, .int .u32 dst, .slice A m c, .string name, .int .i64 span, .int .i64 freq] 36)) :=
    ⟨below_alloc (Below.refl _ _) _, by rw [hcs]; exact heap_alloc_new w _, by simp⟩
  have HH := Aside0.mk h0
  clear h0 hcs
  have k0 : ∀ x : InD (Held w w.heap.size w.heap.size (.cells cs 36 (0, 0))), x.val.cell? ⟨w.heap.size, 0, none⟩ = some (.int .i64 6) := fun x => (x.ok.cell 0).trans (by rw [HCS.out]; rfl)
  have k1 : ∀ x : InD (Held w w.heap.size w.heap.size (.cells cs 36 (0, 0))), x.val.cell? ⟨w.heap.size, 1, none⟩ = some (.int .u32 dst) := fun x => (x.ok.cell 1).trans (by rw [HCS.out]; rfl)
  have k2 : ∀ x : InD (Held w w.heap.size w.heap.size (.cells cs 36 (0, 0))), x.val.cell? ⟨w.heap.size, 2, none⟩ = some (.slice A m c) := fun x => (x.ok.cell 2).trans (by rw [HCS.out]; rfl)
  have k3 : ∀ x : InD (Held w w.heap.size w.heap.size (.cells cs 36 (0, 0))), x.val.cell? ⟨w.heap.size, 3, none⟩ = some (.string name) := fun x => (x.ok.cell 3).trans (by rw [HCS.out]; rfl)
  have ca : ∀ x : InD (Held w w.heap.size w.heap.size (.cells cs 36 (0, 0))), Calls Tryz.prog 32 #[.int .u32 dst] x.val fun e w'' => e = .returned (.string (ba (printP dst))) ∧ ∃ y : InD (Held w w.heap.size w.heap.size (.cells cs 36 (0, 0))), w'' = y.val :=
    fun x => calls_in ((refPrint_calls dst HEA.out.dst0.1 HEA.out.dst0.2 x.val).mono fun _ _ ⟨he, hq⟩ => ⟨he, by obtain ⟨q, rfl⟩ := hq; exact x.ok.next (pw_below_drewN (Below.refl _ _) q)⟩)
  have cd : ∀ x : InD (Held w w.heap.size w.heap.size (.cells cs 36 (0, 0))), Calls Tryz.prog 33 #[.slice A m c] x.val fun e w'' => e = .returned (.string (ba (dataP l))) ∧ ∃ y : InD (Held w w.heap.size w.heap.size (.cells cs 36 (0, 0))), w'' = y.val :=
    fun x => calls_in ((refData_calls A m c l x.val (Kd.C_below HEA.out.reads x.ok.below) HEA.out.bytes HEA.out.small).mono fun _ _ ⟨he, hq⟩ => ⟨he, by obtain ⟨q, rfl⟩ := hq; exact x.ok.next (pw_below_drewN (Below.refl _ _) q)⟩)
  generalize ba (printP dst) = Y4 at ca s4 ⊢
  generalize ba (dataP l) = Y6 at cd s6 ⊢
  unfold outV
  go_enter Tryz.func16, Tryz.ntmps16
  go_wp2_with fail
  haveI : Nonempty (InD (Held w w.heap.size w.heap.size (.cells cs 36 (0, 0)))) := ⟨⟨_, HH.out.drew⟩⟩
  refine wp_region_class (Held w w.heap.size w.heap.size (.cells cs 36 (0, 0))) (by kernel_rfl) (by kernel_rfl) HH.out.drew ?_
  repeat (go_big_quiet_step (first | with_reducible exact ca _ | with_reducible exact cd _))
  refine wpQuiet_nil ?_
  clear k0 k1 k2 k3 ca cd HH
  intro x
  obtain ⟨W, hW⟩ : ∃ W, W = x.val := ⟨_, rfl⟩
  have hWH := x.ok
  rw [← hW] at hWH ⊢
  clear hW x this
  have hb := hWH.below
  clear hWH
  go_wp2_with fail
  go_ret
  exact ⟨rfl, hb⟩
set_option maxRecDepth 100000 in
set_option maxHeartbeats 2000000 in
theorem rout7 (dst : Int) (A : Option Addr) (m c : Nat) (l : List Int) (name : ByteArray) (span freq : Int) (w : World) (HE : OutOk w dst A m c l name span freq) :
    Calls Tryz.prog 16 #[outV 7 dst A m c name span freq] w fun e w' => e = .returned (.string (outP 7 dst l name span freq)) ∧ Below w.heap.size w w' := by
  have hX : outP 7 dst l name span freq = (⟨#[112, 97, 110, 105, 99]⟩ : ByteArray) := by unfold outP; simp
  rw [hX]
  clear hX
  have HEA := Aside0.mk HE
  clear HE
  unfold outV
  go_enter Tryz.func16, Tryz.ntmps16
  go_wp2_with fail
  go_ret
  exact ⟨rfl, below_alloc (Below.refl _ _) _⟩
set_option maxRecDepth 100000 in
set_option maxHeartbeats 2000000 in
theorem rout0 (k : Int) (dst : Int) (A : Option Addr) (m c : Nat) (l : List Int) (name : ByteArray) (span freq : Int) (w : World) (HE : OutOk w dst A m c l name span freq) (n1 : k ≠ 1) (n2 : k ≠ 2) (n3 : k ≠ 3) (n4 : k ≠ 4) (n5 : k ≠ 5) (n6 : k ≠ 6) (n7 : k ≠ 7) :
    Calls Tryz.prog 16 #[outV k dst A m c name span freq] w fun e w' => e = .returned (.string (outP k dst l name span freq)) ∧ Below w.heap.size w w' := by
  have hX : outP k dst l name span freq = (⟨#[63]⟩ : ByteArray) := by unfold outP; simp [n1, n2, n3, n4, n5, n6, n7]
  rw [hX]
  clear hX
  have HEA := Aside0.mk HE
  have e1 : (k == 1) = false := beq_eq_false_iff_ne.2 n1
  have e2 : (k == 2) = false := beq_eq_false_iff_ne.2 n2
  have e3 : (k == 3) = false := beq_eq_false_iff_ne.2 n3
  have e4 : (k == 4) = false := beq_eq_false_iff_ne.2 n4
  have e5 : (k == 5) = false := beq_eq_false_iff_ne.2 n5
  have e6 : (k == 6) = false := beq_eq_false_iff_ne.2 n6
  have e7 : (k == 7) = false := beq_eq_false_iff_ne.2 n7
  clear n1 n2 n3 n4 n5 n6 n7
  clear HE
  unfold outV
  go_enter Tryz.func16, Tryz.ntmps16
  go_wp2_with fail
  go_ret
  exact ⟨rfl, below_alloc (Below.refl _ _) _⟩
theorem rout_calls (k dst : Int) (A : Option Addr) (m c : Nat) (l : List Int) (name : ByteArray) (span freq : Int) (w : World) (HE : OutOk w dst A m c l name span freq) :
    Calls Tryz.prog 16 #[outV k dst A m c name span freq] w fun e w' => e = .returned (.string (outP k dst l name span freq)) ∧ Below w.heap.size w w' := by
  by_cases n1 : k = 1
  · subst n1; exact rout1 dst A m c l name span freq w HE
  by_cases n2 : k = 2
  · subst n2; exact rout2 dst A m c l name span freq w HE
  by_cases n3 : k = 3
  · subst n3; exact rout3 dst A m c l name span freq w HE
  by_cases n4 : k = 4
  · subst n4; exact rout4 dst A m c l name span freq w HE
  by_cases n5 : k = 5
  · subst n5; exact rout5 dst A m c l name span freq w HE
  by_cases n6 : k = 6
  · subst n6; exact rout6 dst A m c l name span freq w HE
  by_cases n7 : k = 7
  · subst n7; exact rout7 dst A m c l name span freq w HE
  exact rout0 k dst A m c l name span freq w HE n1 n2 n3 n4 n5 n6 n7
end Go.Proofs.YtdndmbcejoodpaaGreatDoor
namespace Go.Proofs.YtdndmbcejoodpaaGreatDoor
open Go.RowKit Go.Proofs.YtdndmbcejoodpaaGreatDoorW.PrintWords Go.Proofs.YtdndmbcejoodpaaGreatDoorW.PrintLast Go.Proofs.YtdndmbcejoodpaaGreatDoorW.PrintMore
set_option linter.unusedVariables false
set_option linter.unusedSimpArgs false
theorem dec_len10 (n : Nat) (h : n < 10000000000) : 1 ≤ (Lib.decDigits n).length ∧ (Lib.decDigits n).length ≤ 10 := by
  rw [Lib.decDigits_length]
  have h1 := nDigits_le n 10 (by decide) (by omega)
  refine ⟨?_, h1⟩
  unfold Lib.nDigits
  split <;> omega
theorem atoi_itoa (n : Int) (h0 : -10000000000 < n) (h1 : n < 10000000000) : atoiP (Lib.itoa n) = n := by
  have hpos : ∀ m : Nat, m < 10000000000 → Lib.atoiAll (Lib.decDigits m) = .ok (m : Int) := fun m hm => by
    have h := atoi_spell (Lib.decDigits m) (decDigits_dig m) (dec_len10 m hm).1 (dec_len10 m hm).2
    rw [spell_decDigits] at h
    exact h
  unfold Lib.itoa
  split
  · rename_i hn
    have h := hpos n.natAbs (by omega)
    obtain ⟨c, r, hcr⟩ : ∃ c r, Lib.decDigits n.natAbs = c :: r := by
      cases hq : Lib.decDigits n.natAbs with
      | nil => have := (dec_len10 n.natAbs (by omega)).1; rw [hq] at this; simp at this
      | cons c r => exact ⟨c, r, rfl⟩
    have hc : isDig c = true := by
      have := decDigits_dig n.natAbs
      rw [hcr] at this
      simp only [List.all_cons, Bool.and_eq_true] at this
      exact this.1
    rw [isDig_iff] at hc
    rw [hcr] at h ⊢
    rw [Lib.atoiAll_plain c r (by omega) (by omega)] at h
    have hm : Lib.parseMag (c :: r) = .ok n.natAbs := by
      cases hq : Lib.parseMag (c :: r) with
      | ok u =>
        rw [hq] at h
        simp only [Lib.signless] at h
        split at h
        · cases h
        · injection h with h
          congr 1
          omega
      | range => rw [hq] at h; simp [Lib.signless] at h
      | _ => rw [hq] at h; simp [Lib.signless] at h
    unfold atoiP
    rw [Lib.atoiAll_minus, hm]
    simp only [Lib.signed]
    rw [if_neg (by omega)]
    show -((n.natAbs : Nat) : Int) = n
    omega
  · rename_i hn
    unfold atoiP
    rw [hpos n.toNat (by omega)]
    show ((n.toNat : Nat) : Int) = n
    omega
theorem rnum_spell : ∀ (l : List UInt8) (m : Nat) (acc : Int), l.all isDig = true → l.length ≤ m → rnumL l m acc = spell acc l := by
  intro l
  induction l with
  | nil => intro m acc _ _; simp [rnumL, spell]
  | cons c r ih =>
    intro m acc hd hm
    simp only [List.all_cons, Bool.and_eq_true, List.length_cons] at hd hm
    obtain ⟨m, rfl⟩ : ∃ k, m = k + 1 := ⟨m - 1, by omega⟩
    rw [rnumL, if_pos ((isDig_iff c).1 hd.1), ih m _ hd.2 (by omega), spell]
theorem rnum_itoa (n : Int) (h0 : -10000000000 < n) (h1 : n < 10000000000) : rnumP (Lib.itoa n) = n := by
  unfold Lib.itoa
  split
  · rename_i hn
    have hl := dec_len10 n.natAbs (by omega)
    unfold rnumP
    rw [if_pos (by rfl), rnumL, if_neg (by decide), rnum_spell _ 11 0 (decDigits_dig _) (by omega), spell_decDigits]
    omega
  · rename_i hn
    have hl := dec_len10 n.toNat (by omega)
    obtain ⟨c, r, hcr⟩ : ∃ c r, Lib.decDigits n.toNat = c :: r := by
      cases hq : Lib.decDigits n.toNat with
      | nil => have := hl.1; rw [hq] at this; simp at this
      | cons c r => exact ⟨c, r, rfl⟩
    have hc : isDig c = true := by
      have := decDigits_dig n.toNat
      rw [hcr] at this
      simp only [List.all_cons, Bool.and_eq_true] at this
      exact this.1
    rw [isDig_iff] at hc
    unfold rnumP
    rw [if_neg (by rw [hcr]; intro h; simp only [List.head?_cons, Option.some.injEq] at h; rw [h] at hc; revert hc; decide), rnum_spell _ 12 0 (decDigits_dig _) (by omega), spell_decDigits]
    omega
/-! ### data -/
theorem hex_pair (b : Int) (h : 0 ≤ b ∧ b < 256) : hexB (hexI (hexC (b / 16).toNat)) (hexI (hexC (b % 16).toNat)) = b ∧ rdig (hexC (b / 16).toNat) * 16 + rdig (hexC (b % 16).toNat) = b := by
  have h1 : ∀ a : Fin 256, hexB (hexI (hexC (((a.val : Int) / 16).toNat))) (hexI (hexC (((a.val : Int) % 16).toNat))) = (a.val : Int) ∧ rdig (hexC (((a.val : Int) / 16).toNat)) * 16 + rdig (hexC (((a.val : Int) % 16).toNat)) = (a.val : Int) := by decide +kernel
  have h2 := h1 ⟨b.toNat, by omega⟩
  have e : ((b.toNat : Nat) : Int) = b := by omega
  simpa only [e] using h2
theorem bytes_hex : ∀ (l acc : List Int), (∀ b ∈ l, 0 ≤ b ∧ b < 256) → bytesP (hexL l) acc = acc ++ l ∧ rhexP (hexL l) acc = acc ++ l := by
  intro l
  induction l with
  | nil => intro acc _; simp [hexL, bytesP, rhexP]
  | cons b r ih =>
    intro acc hb
    have hp := hex_pair b (hb b (by simp))
    have hr := fun acc => ih acc (fun x hx => hb x (by simp [hx]))
    rw [hexL, bytesP, rhexP, hp.1, hp.2, (hr _).1, (hr _).2]
    simp
theorem bytes_data (l : List Int) (hb : ∀ b ∈ l, 0 ≤ b ∧ b < 256) : bytesP (dataP l) [] = l ∧ rhexP (dataP l) [] = l := by
  unfold dataP
  split
  · rename_i h
    subst h
    exact ⟨by simp [bytesP], by simp [rhexP]⟩
  · simpa using bytes_hex l [] hb
theorem hexC_no (d : Nat) : hexC d ≠ 32 := by
  have h : ∀ a : Fin 16, hexC a.val ≠ 32 := by decide
  rcases Nat.lt_or_ge d 16 with h1 | h1
  · exact h ⟨d, h1⟩
  · obtain ⟨k, rfl⟩ : ∃ k, d = k + 16 := ⟨d - 16, by omega⟩
    simp [hexC]
theorem hexL_no : ∀ (l : List Int), ∀ x ∈ hexL l, x ≠ 32 := by
  intro l
  induction l with
  | nil => intro x hx; simp [hexL] at hx
  | cons b r ih =>
    intro x hx
    rw [hexL] at hx
    simp only [List.mem_cons] at hx
    rcases hx with rfl | rfl | hx
    · exact hexC_no _
    · exact hexC_no _
    · exact ih x hx
theorem dataP_no (l : List Int) : ∀ x ∈ dataP l, x ≠ 32 := by
  unfold dataP
  split
  · intro x hx; simp at hx; subst hx; decide
  · exact hexL_no l
theorem itoa_no (n : Int) : ∀ x ∈ Lib.itoa n, x ≠ 32 := by
  have hdig : ∀ m : Nat, ∀ x ∈ Lib.decDigits m, x ≠ 32 := fun m x hx h => by
    have := List.all_eq_true.1 (decDigits_dig m) x hx
    rw [h] at this
    revert this
    decide
  unfold Lib.itoa
  split
  · intro x hx
    rcases List.mem_cons.1 hx with rfl | hx
    · decide
    · exact hdig _ x hx
  · exact hdig _
theorem printP_no (a : Int) : ∀ x ∈ printP a, x ≠ 32 := by
  have h := fun n => numeral_no 32 (by decide) n
  intro x hx
  simp only [printP, partsP, glue, List.mem_append, List.mem_cons] at hx
  rcases hx with hx | rfl | hx | rfl | hx | rfl | hx
  · exact h _ x hx
  · decide
  · exact h _ x hx
  · decide
  · exact h _ x hx
  · decide
  · exact h _ x hx
theorem wordP_no (k : Int) : ∀ x ∈ wordP k, x ≠ 32 := by
  unfold wordP
  (repeat' split) <;> decide
theorem pieces_no (kind wait frm dst unit : Int) (l : List Int) (n : Int) : ∀ p ∈ wordP kind :: Lib.itoa wait :: tailP kind frm dst unit l n, ∀ x ∈ p, x ≠ 32 := by
  intro p hp
  rcases List.mem_cons.1 hp with rfl | hp
  · exact wordP_no kind
  rcases List.mem_cons.1 hp with rfl | hp
  · exact itoa_no wait
  unfold tailP at hp
  split at hp
  · simp only [List.mem_cons, List.mem_nil_iff, or_false] at hp
    rcases hp with rfl | rfl | rfl
    · exact printP_no frm
    · exact printP_no dst
    · exact dataP_no l
  split at hp
  · simp only [List.mem_cons, List.mem_nil_iff, or_false] at hp
    rcases hp with rfl | rfl
    · exact itoa_no unit
    · exact dataP_no l
  split at hp
  · simp only [List.mem_cons, List.mem_nil_iff, or_false] at hp
    rcases hp with rfl | rfl
    · exact itoa_no unit
    · exact itoa_no n
  split at hp
  · simp only [List.mem_cons, List.mem_nil_iff, or_false] at hp
    rw [hp]
    exact itoa_no n
  · simp at hp
theorem split_enc (kind wait frm dst unit : Int) (l : List Int) (n : Int) : splitP 32 [] (encL kind wait frm dst unit l n) = wordP kind :: Lib.itoa wait :: tailP kind frm dst unit l n :=
  split_glue 32 _ (by simp) (pieces_no kind wait frm dst unit l n)
theorem kind_back (k : Int) (h : 1 ≤ k ∧ k ≤ 8) : kindUpTo (wordP k) 8 = k := by
  have hk8 : k = 1 ∨ k = 2 ∨ k = 3 ∨ k = 4 ∨ k = 5 ∨ k = 6 ∨ k = 7 ∨ k = 8 := by omega
  rcases hk8 with rfl | rfl | rfl | rfl | rfl | rfl | rfl | rfl <;> decide
abbrev Ev := Int × Int × Int × Int × Int × List Int × Int
/-- An event as far as it is written. -/
def canonT (kind wait frm dst unit : Int) (l : List Int) (n : Int) : Ev :=
  if kind = 2 then (2, wait, frm, dst, 0, l, 0) else if kind = 3 then (3, wait, 0, 0, unit, l, 0) else if kind = 4 then (4, wait, 0, 0, unit, [], n)
  else if kind = 5 ∨ kind = 6 ∨ kind = 8 then (kind, wait, 0, 0, 0, [], n) else (kind, wait, 0, 0, 0, [], 0)
theorem form_facts {kind wait unit n : Int} {m : Nat} (h : formP kind wait unit n m = 0) : (1 ≤ kind ∧ kind ≤ 8) ∧ (0 ≤ wait ∧ wait ≤ 1024) ∧ rangedP kind unit n = true ∧ ¬ ((kind = 2 ∨ kind = 3) ∧ 512 < m) := by
  unfold formP at h
  split at h
  · rename_i hc
    obtain ⟨h1, h2, h3⟩ := hc
    refine ⟨by simpa [fitsP] using h1, by simpa [fitsP] using h2, h3, ?_⟩
    intro hm
    rw [if_pos hm] at h
    cases h
  · cases h
theorem range_unit {kind unit n : Int} (h : rangedP kind unit n = true) (hk : kind = 3 ∨ kind = 4) : 0 ≤ unit ∧ unit ≤ 3 := by
  unfold rangedP at h
  rcases hk with rfl | rfl
  · simp [fitsP] at h; exact h.1
  · simp [fitsP] at h; exact h.1
theorem range_n {kind unit n : Int} (h : rangedP kind unit n = true) (hk : kind = 4 ∨ kind = 5 ∨ kind = 6 ∨ kind = 8) : -10000000000 < n ∧ n < 10000000000 := by
  unfold rangedP at h
  rcases hk with rfl | rfl | rfl | rfl
  · simp [fitsP, loP, hiP] at h; omega
  · simp [fitsP, loP, hiP] at h; omega
  · simp [fitsP, loP, hiP] at h; omega
  · simp [fitsP, loP, hiP] at h; omega
theorem dec_enc (kind wait frm dst unit : Int) (l : List Int) (n : Int) (h : formP kind wait unit n l.length = 0) (hb : ∀ b ∈ l, 0 ≤ b ∧ b < 256) (hf : 0 ≤ frm ∧ frm < 4294967296) (hd : 0 ≤ dst ∧ dst < 4294967296) :
    decP (encL kind wait frm dst unit l n) = canonT kind wait frm dst unit l n ∧ rdecP (encL kind wait frm dst unit l n) = canonT kind wait frm dst unit l n := by
  obtain ⟨hk, hw, hr, hm⟩ := form_facts h
  have hu := fun q => range_unit hr q
  have hn := fun q => range_n hr q
  have hkb := kind_back kind hk
  have aw := atoi_itoa wait (by omega) (by omega)
  have rw_ := rnum_itoa wait (by omega) (by omega)
  have hbd := bytes_data l hb
  have af := congrArg Prod.fst (addr_print frm hf.1 hf.2)
  have ad := congrArg Prod.fst (addr_print dst hd.1 hd.2)
  simp only at af ad
  unfold decP rdecP toks
  rw [split_enc]
  have hk8 : kind = 1 ∨ kind = 2 ∨ kind = 3 ∨ kind = 4 ∨ kind = 5 ∨ kind = 6 ∨ kind = 7 ∨ kind = 8 := by omega
  rcases hk8 with rfl | rfl | rfl | rfl | rfl | rfl | rfl | rfl
  · constructor <;> simp [decW, rdecW, tailP, canonT, hkb, aw, rw_]
  · constructor <;> simp [decW, rdecW, tailP, canonT, hkb, aw, rw_, af, ad, hbd.1, hbd.2]
  · have u := hu (by decide)
    constructor <;> simp [decW, rdecW, tailP, canonT, hkb, aw, rw_, hbd.1, hbd.2, atoi_itoa unit (by omega) (by omega), rnum_itoa unit (by omega) (by omega)]
  · have u := hu (by decide)
    have v := hn (by decide)
    constructor <;> simp [decW, rdecW, tailP, canonT, hkb, aw, rw_, atoi_itoa unit (by omega) (by omega), rnum_itoa unit (by omega) (by omega), atoi_itoa n v.1 v.2, rnum_itoa n v.1 v.2]
  · have v := hn (by decide)
    constructor <;> simp [decW, rdecW, tailP, canonT, hkb, aw, rw_, atoi_itoa n v.1 v.2, rnum_itoa n v.1 v.2]
  · have v := hn (by decide)
    constructor <;> simp [decW, rdecW, tailP, canonT, hkb, aw, rw_, atoi_itoa n v.1 v.2, rnum_itoa n v.1 v.2]
  · constructor <;> simp [decW, rdecW, tailP, canonT, hkb, aw, rw_]
  · have v := hn (by decide)
    constructor <;> simp [decW, rdecW, tailP, canonT, hkb, aw, rw_, atoi_itoa n v.1 v.2, rnum_itoa n v.1 v.2]
def encT (t : Ev) : List UInt8 × Int := encP t.1 t.2.1 t.2.2.1 t.2.2.2.1 t.2.2.2.2.1 t.2.2.2.2.2.1 t.2.2.2.2.2.2
theorem encP_ok {kind wait frm dst unit : Int} {l : List Int} {n : Int} {s : List UInt8} (h : encP kind wait frm dst unit l n = (s, 0)) : formP kind wait unit n l.length = 0 ∧ encL kind wait frm dst unit l n = s := by
  unfold encP at h
  split at h
  · rename_i hf
    exact ⟨hf, congrArg Prod.fst h⟩
  · rename_i hf
    exact absurd (congrArg Prod.snd h) hf
def evOkT (t : Ev) : Prop := (∀ b ∈ t.2.2.2.2.2.1, 0 ≤ b ∧ b < 256) ∧ (0 ≤ t.2.2.1 ∧ t.2.2.1 < 4294967296) ∧ (0 ≤ t.2.2.2.1 ∧ t.2.2.2.1 < 4294967296)
theorem z_ok : (0 : Int) ≤ 0 ∧ (0 : Int) < 4294967296 := by decide
theorem decP_ok (s : List UInt8) : evOkT (decP s) := by
  unfold decP decW evOkT
  simp only
  split
  · exact ⟨bytesP_ok _, addrP_range _, addrP_range _⟩
  split
  · exact ⟨bytesP_ok _, z_ok, z_ok⟩
  split
  · exact ⟨by simp, z_ok, z_ok⟩
  split
  · exact ⟨by simp, z_ok, z_ok⟩
  · exact ⟨by simp, z_ok, z_ok⟩
theorem rdecP_ok (s : List UInt8) : evOkT (rdecP s) := by
  unfold rdecP rdecW evOkT
  simp only
  split
  · exact ⟨rhexP_ok _, addrP_range _, addrP_range _⟩
  split
  · exact ⟨rhexP_ok _, z_ok, z_ok⟩
  split
  · exact ⟨by simp, z_ok, z_ok⟩
  split
  · exact ⟨by simp, z_ok, z_ok⟩
  · exact ⟨by simp, z_ok, z_ok⟩
theorem dec_encT (t : Ev) (s : List UInt8) (ho : evOkT t) (h : encT t = (s, 0)) : decP s = canonT t.1 t.2.1 t.2.2.1 t.2.2.2.1 t.2.2.2.2.1 t.2.2.2.2.2.1 t.2.2.2.2.2.2 ∧ rdecP s = canonT t.1 t.2.1 t.2.2.1 t.2.2.2.1 t.2.2.2.2.1 t.2.2.2.2.2.1 t.2.2.2.2.2.2 := by
  obtain ⟨hf, he⟩ := encP_ok h
  have := dec_enc _ _ _ _ _ _ _ hf ho.1 ho.2.1 ho.2.2
  rw [he] at this
  exact this
/-- Where one of the two reads a line, the other reads the same. -/
theorem same_dec (s : List UInt8) (h : encT (decP s) = (s, 0)) : rdecP s = decP s := by
  obtain ⟨h1, h2⟩ := dec_encT _ s (decP_ok s) h
  exact h2.trans h1.symm
theorem same_rdec (s : List UInt8) (h : encT (rdecP s) = (s, 0)) : rdecP s = decP s := by
  obtain ⟨h1, h2⟩ := dec_encT _ s (rdecP_ok s) h
  exact h2.trans h1.symm
theorem same_good (s : List UInt8) : encT (decP s) = (s, 0) ↔ encT (rdecP s) = (s, 0) :=
  ⟨fun h => by rw [same_dec s h]; exact h, fun h => by rw [← same_rdec s h]; exact h⟩
/-- What is written of an event is what is written of it as far as it is written. -/
theorem enc_canon (kind wait frm dst unit : Int) (l : List Int) (n : Int) (h : formP kind wait unit n l.length = 0) : encT (canonT kind wait frm dst unit l n) = (encL kind wait frm dst unit l n, 0) := by
  obtain ⟨hk, hw, hr, hm⟩ := form_facts h
  have hk8 : kind = 1 ∨ kind = 2 ∨ kind = 3 ∨ kind = 4 ∨ kind = 5 ∨ kind = 6 ∨ kind = 7 ∨ kind = 8 := by omega
  have key : ∀ (k w f d u : Int) (l' : List Int) (n' : Int), formP k w u n' l'.length = 0 → encL k w f d u l' n' = encL kind wait frm dst unit l n → encT (k, w, f, d, u, l', n') = (encL kind wait frm dst unit l n, 0) := by
    intro k w f d u l' n' hf he
    unfold encT encP
    simp only
    rw [if_pos hf, he]
  have hw2 : fitsP wait 0 1024 = true := by simp [fitsP, hw.1, hw.2]
  have mk : ∀ (k w u n' : Int) (m : Nat), fitsP k 1 8 = true → fitsP w 0 1024 = true → rangedP k u n' = true → ¬ ((k = 2 ∨ k = 3) ∧ 512 < m) → formP k w u n' m = 0 := by
    intro k w u n' m h1 h2 h3 h4
    unfold formP
    rw [if_pos ⟨h1, h2, h3⟩, if_neg h4]
  rcases hk8 with rfl | rfl | rfl | rfl | rfl | rfl | rfl | rfl
  · exact key _ _ _ _ _ _ _ (mk _ _ _ _ _ (by decide) hw2 (by decide) (by simp)) (by simp [encL, tailP])
  · exact key _ _ _ _ _ _ _ (mk _ _ _ _ _ (by decide) hw2 (by decide) hm) (by simp [encL, tailP])
  · have u := range_unit hr (.inl rfl)
    exact key _ _ _ _ _ _ _ (mk _ _ _ _ _ (by decide) hw2 (by simp [rangedP, fitsP, loP, hiP]; omega) hm) (by simp [encL, tailP])
  · exact key _ _ _ _ _ _ _ (mk _ _ _ _ _ (by decide) hw2 hr (by simp)) (by simp [encL, tailP])
  · exact key _ _ _ _ _ _ _ (mk _ _ _ _ _ (by decide) hw2 (by simpa [rangedP] using hr) (by simp)) (by simp [encL, tailP])
  · exact key _ _ _ _ _ _ _ (mk _ _ _ _ _ (by decide) hw2 (by simpa [rangedP] using hr) (by simp)) (by simp [encL, tailP])
  · exact key _ _ _ _ _ _ _ (mk _ _ _ _ _ (by decide) hw2 (by decide) (by simp)) (by simp [encL, tailP])
  · exact key _ _ _ _ _ _ _ (mk _ _ _ _ _ (by decide) hw2 (by simpa [rangedP] using hr) (by simp)) (by simp [encL, tailP])
end Go.Proofs.YtdndmbcejoodpaaGreatDoor
namespace Go.Proofs.YtdndmbcejoodpaaGreatDoor
open Go.RowKit Go.Proofs.YtdndmbcejoodpaaGreatDoorW.PrintWords Go.Proofs.YtdndmbcejoodpaaGreatDoorW.PrintLast Go.Proofs.YtdndmbcejoodpaaGreatDoorW.PrintMore
set_option linter.unusedVariables false
set_option linter.unusedSimpArgs false
/-- What a line is, and the number beside it. -/
def resT (s : List UInt8) : Ev × Int := if encT (decP s) = (s, 0) then (decP s, 0) else ((0, 0, 0, 0, 0, [], 0), 220)
theorem resT_ok (s : List UInt8) : evOkT (resT s).1 := by
  unfold resT
  split
  · exact decP_ok s
  · exact ⟨by simp, z_ok, z_ok⟩
def Res (s : List UInt8) (e : Ending) (w' : World) : Prop :=
  ∃ A m c, e = .returned (.tuple #[evV (resT s).1.1 (resT s).1.2.1 (resT s).1.2.2.1 (resT s).1.2.2.2.1 (resT s).1.2.2.2.2.1 A m c (resT s).1.2.2.2.2.2.2, .int .i64 (resT s).2]) ∧ Kd.C (Kd.int .u8) w' A m (resT s).1.2.2.2.2.2.1 ∧ m ≤ c
def ResOf (t : Ev) (s : List UInt8) (e : Ending) (w' : World) : Prop :=
  if encT t = (s, 0) then ∃ A m c, e = .returned (.tuple #[evV t.1 t.2.1 t.2.2.1 t.2.2.2.1 t.2.2.2.2.1 A m c t.2.2.2.2.2.2, .int .i64 0]) ∧ Kd.C (Kd.int .u8) w' A m t.2.2.2.2.2.1 ∧ m ≤ c
  else e = .returned (.tuple #[evV 0 0 0 0 0 none 0 0 0, .int .i64 220])
theorem of_dec {s : List UInt8} {e : Ending} {w' : World} (h : DecR s e w') : ResOf (decP s) s e w' := by
  unfold DecR at h
  generalize decP s = t at h ⊢
  obtain ⟨k, v, f, d, u, l, n⟩ := t
  exact h
theorem of_rdec {s : List UInt8} {e : Ending} {w' : World} (h : RDecR s e w') : ResOf (rdecP s) s e w' := by
  unfold RDecR at h
  generalize rdecP s = t at h ⊢
  obtain ⟨k, v, f, d, u, l, n⟩ := t
  exact h
theorem res_of {s : List UInt8} {e : Ending} {w' : World} (h : ResOf (decP s) s e w') : Res s e w' := by
  unfold Res resT
  unfold ResOf at h
  by_cases hg : encT (decP s) = (s, 0)
  · rw [if_pos hg] at h ⊢
    exact h
  · rw [if_neg hg] at h ⊢
    exact ⟨none, 0, 0, h, Kd.C_nil _ _, Nat.le_refl _⟩
theorem res_dec {s : List UInt8} {e : Ending} {w' : World} (h : DecR s e w') : Res s e w' := res_of (of_dec h)
theorem res_rdec {s : List UInt8} {e : Ending} {w' : World} (h : RDecR s e w') : Res s e w' := by
  have h := of_rdec h
  refine res_of ?_
  by_cases hg : encT (decP s) = (s, 0)
  · rw [same_dec s hg] at h
    exact h
  · unfold ResOf at h ⊢
    rw [if_neg (fun q => hg ((same_good s).2 q))] at h
    rw [if_neg hg]
    exact h
theorem dec_res (s : List UInt8) (w : World) (hs : s.length ≤ 1048576) (HL : LaidE w) : Calls Tryz.prog 12 #[.string (ba s)] w fun e w' => Res s e w' ∧ Below w.heap.size w w' :=
  (decode_calls s w hs HL).mono fun _ _ ⟨hb, h⟩ => ⟨res_dec h, hb⟩
theorem rdec_res (s : List UInt8) (w : World) (hs : s.length ≤ 1048576) (HL : Laid w) : Calls Tryz.prog 13 #[.string (ba s)] w fun e w' => Res s e w' ∧ Below w.heap.size w w' :=
  (rdecode_calls s w hs HL).mono fun _ _ ⟨hb, h⟩ => ⟨res_rdec h, hb⟩
theorem same_self (k w f d u : Int) (l : List Int) (n : Int) : PsameEvent.foliotlaw20_sameEvent.f k w f d u l n k w f d u l n = some true := by
  simp [PsameEvent.foliotlaw20_sameEvent.f]
theorem same_calls (kind wait frm dst unit : Int) (A : Option Addr) (m c : Nat) (A' : Option Addr) (m' c' : Nat) (l : List Int) (n : Int) (w : World) (h : Kd.C (Kd.int .u8) w A m l) (hc : m ≤ c) (h' : Kd.C (Kd.int .u8) w A' m' l) (hc' : m' ≤ c') :
    Calls Tryz.prog 14 #[evV kind wait frm dst unit A m c n, evV kind wait frm dst unit A' m' c' n] w fun e w' => e = .returned (.bool true) ∧ Below w.heap.size w w' := by
  obtain rfl : l.length = m := h.1
  obtain rfl : l.length = m' := h'.1
  exact PsameEvent.foliotlaw20_sameEvent.calls kind wait frm dst unit A c l n kind wait frm dst unit A' c' l n true w h hc h' hc' (same_self kind wait frm dst unit l n)
end Go.Proofs.YtdndmbcejoodpaaGreatDoor
