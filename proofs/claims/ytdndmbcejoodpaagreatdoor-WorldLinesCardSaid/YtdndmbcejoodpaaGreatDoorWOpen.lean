/- A handed event, and a handed out, laid open. -/
import Derived.Test.YtdndmbcejoodpaaGreatDoorWRes
import Derived.Test.YtdndmbcejoodpaaGreatDoorRows
import Derived.ProofKit
import Derived.OpenShut
import Derived.ChangeArms
import Derived.WideShapes
import Derived.Deep.DeepHandedRow
namespace Go.Proofs.YtdndmbcejoodpaaGreatDoor
open Go.RowKit Go.Proofs.YtdndmbcejoodpaaGreatDoorW.PrintWords Go.Proofs.YtdndmbcejoodpaaGreatDoorW.PrintLast Go.Proofs.YtdndmbcejoodpaaGreatDoorW.PrintMore
set_option linter.unusedVariables false
set_option linter.unusedSimpArgs false
/-- An event as the caller holds it. -/
structure EvIn (w : World) (kind wait frm dst unit : Int) (A : Option Addr) (m c : Nat) (l : List Int) (n : Int) : Prop where
  reads : Kd.C (Kd.int .u8) w A m l
  cap : m ≤ c
  bytes : ∀ b ∈ l, 0 ≤ b ∧ b < 256
  wait0 : -9223372036854775808 ≤ wait ∧ wait ≤ 9223372036854775807
  frm0 : 0 ≤ frm ∧ frm < 4294967296
  dst0 : 0 ≤ dst ∧ dst < 4294967296
  unit0 : -9223372036854775808 ≤ unit ∧ unit ≤ 9223372036854775807
  n0 : -9223372036854775808 ≤ n ∧ n ≤ 9223372036854775807
structure OutIn (w : World) (dst : Int) (A : Option Addr) (m c : Nat) (l : List Int) (span freq : Int) : Prop where
  reads : Kd.C (Kd.int .u8) w A m l
  bytes : ∀ b ∈ l, 0 ≤ b ∧ b < 256
  dst0 : 0 ≤ dst ∧ dst < 4294967296
  span0 : -9223372036854775808 ≤ span ∧ span ≤ 9223372036854775807
  freq0 : -9223372036854775808 ≤ freq ∧ freq ≤ 9223372036854775807
theorem EvIn.ok {w w' : World} {kind wait frm dst unit : Int} {A : Option Addr} {m c : Nat} {l : List Int} {n : Int} (h : EvIn w kind wait frm dst unit A m c l n) (hm : m ≤ 65536) (hb : Below w.heap.size w w') (HL : LaidE w) : EvOk w' wait frm dst unit A m c l n :=
  ⟨(HL.on hb).laid, Kd.C_below h.reads hb, h.bytes, by omega, h.wait0, h.frm0, h.dst0, h.unit0, h.n0⟩
theorem OutIn.ok {w w' : World} {dst : Int} {A : Option Addr} {m c : Nat} {l : List Int} {name : ByteArray} {span freq : Int} (h : OutIn w dst A m c l span freq) (hm : m ≤ 65536) (hn : name.size ≤ 65536) (hb : Below w.heap.size w w') (HL : LaidE w) : OutOk w' dst A m c l name span freq :=
  ⟨(HL.on hb).laid, Kd.C_below h.reads hb, h.bytes, by omega, h.dst0, by omega, h.span0, h.freq0⟩
/-- What the law holds: its two boxes. -/
structure LinesW (w : World) (r1 r2 : Array Value) (W : World) : Prop where
  b1 : W.heap[w.heap.size]? = some (.cells r1 25 (0, 0))
  b2 : W.heap[w.heap.size + 1]? = some (.cells r2 36 (0, 0))
  below : Below w.heap.size w W
theorem LinesW.next {w W W' : World} {r1 r2 : Array Value} (h : LinesW w r1 r2 W) (hb : Below W.heap.size W W') : LinesW w r1 r2 W' :=
  ⟨(hb.block _ (blk_lt h.b1)).trans h.b1, (hb.block _ (blk_lt h.b2)).trans h.b2, h.below.trans (hb.mono h.below.size)⟩
theorem LinesW.start (w : World) (r1 r2 : Array Value) : LinesW w r1 r2 ((w.alloc (.cells r1 25)).alloc (.cells r2 36)) :=
  ⟨by rw [heap_alloc_old _ _ (by simp)]; exact heap_alloc_new w _, by have := heap_alloc_new (w.alloc (.cells r1 25)) (.cells r2 36); simpa using this, below_alloc (below_alloc (Below.refl _ _) _) _⟩
set_option maxRecDepth 100000 in
set_option maxHeartbeats 4000000 in
theorem lines_calls (kind wait frm dst unit : Int) (A : Option Addr) (m c : Nat) (l : List Int) (n : Int) (s : List UInt8) (k2 d2 : Int) (A2 : Option Addr) (m2 c2 : Nat) (l2 : List Int) (name : ByteArray) (span freq : Int) (w : World) (HL : LaidE w)
    (HE : EvIn w kind wait frm dst unit A m c l n) (HO : OutIn w d2 A2 m2 c2 l2 span freq) :
    Calls Tryz.prog 4 #[evV kind wait frm dst unit A m c n, .string (ba s), outV k2 d2 A2 m2 c2 name span freq] w fun e w' => e = .returned (.bool true) ∧ Below w.heap.size w w' := by
  have HLA := Aside0.mk HL
  have HEA := Aside0.mk HE
  have HOA := Aside0.mk HO
  have hsz : (ba s).size = s.length := by simp [ba, ByteArray.size]
  clear HL HE HO
  by_cases h1 : m ≤ 65536
  · by_cases h2 : (ba s).size ≤ 65536
    · by_cases h3 : m2 ≤ 65536
      · by_cases h4 : name.size ≤ 65536
        · have c1 : decide (65536 < (m : Int)) = false := decide_eq_false (by omega)
          have c2' : decide (65536 < ((ba s).size : Int)) = false := decide_eq_false (by omega)
          have c3 : decide (65536 < (m2 : Int)) = false := decide_eq_false (by omega)
          have c4 : decide (65536 < (name.size : Int)) = false := decide_eq_false (by omega)
          have e1 := fun W hb => encode_calls kind wait frm dst unit A m c l n W (HEA.out.ok h1 hb HLA.out)
          have e2 := fun W hb => refEncode_calls kind wait frm dst unit A m c l n W (HEA.out.ok h1 hb HLA.out) HEA.out.cap
          have d1 := fun W hL => dec_res s W (by omega) hL
          have d2' := fun W hL => rdec_res s W (by omega) hL
          unfold Res at d1 d2'
          generalize resT s = T at d1 d2'
          obtain ⟨⟨tk, tv, tf, td, tu, tl, tn⟩, tz⟩ := T
          simp only at d1 d2'
          have sm := fun B1 M1 C1 B2 M2 C2 W => same_calls tk tv tf td tu B1 M1 C1 B2 M2 C2 tl tn W
          have o1 := fun W hb => wout_calls k2 d2 A2 m2 c2 l2 name span freq W (HOA.out.ok h3 h4 hb HLA.out)
          have o2 := fun W hb => rout_calls k2 d2 A2 m2 c2 l2 name span freq W (HOA.out.ok h3 h4 hb HLA.out)
          generalize encP kind wait frm dst unit l n = E at e1 e2
          obtain ⟨E1, E2⟩ := E
          simp only at e1 e2
          generalize ba E1 = EB at e1 e2
          generalize outP k2 d2 l2 name span freq = OB at o1 o2
          have hEE : (EB.toList == EB.toList) = true := by simp
          have hOO : (OB.toList == OB.toList) = true := by simp
          clear hsz h1 h2 h3 h4
          unfold evV at e1 e2 d1 d2' sm ⊢
          unfold outV at o1 o2 ⊢
          go_enter Tryz.func4, Tryz.ntmps4
          go_wp2_with fail
          have L0 := LinesW.start w #[.int .i64 kind, .int .i64 wait, .int .u32 frm, .int .u32 dst, .int .i64 unit, .slice A m c, .int .i64 n] #[.int .i64 k2, .int .u32 d2, .slice A2 m2 c2, .string name, .int .i64 span, .int .i64 freq]
          refine (e1 _ L0.below).mono ?_
          rintro e w1 ⟨rfl, hb⟩
          have L1 := L0.next hb
          clear hb L0 e1
          have k0 := (blk_cell L1.b1 0).trans rfl
          have k1 := (blk_cell L1.b1 1).trans rfl
          have k2 := (blk_cell L1.b1 2).trans rfl
          have k3 := (blk_cell L1.b1 3).trans rfl
          have k4 := (blk_cell L1.b1 4).trans rfl
          have k5 := (blk_cell L1.b1 5).trans rfl
          have k6 := (blk_cell L1.b1 6).trans rfl
          have H1 := Aside0.mk L1
          clear L1
          go_wp2_with fail
          refine (e2 _ H1.out.below).mono ?_
          rintro e w2 ⟨rfl, hb⟩
          have L2 := H1.out.next hb
          clear hb H1 e2 k0 k1 k2 k3 k4 k5 k6
          have H2 := Aside0.mk L2
          clear L2
          go_wp2_with fail
          refine (d1 _ (HLA.out.on H2.out.below)).mono ?_
          rintro e w3 ⟨⟨B1, M1, C1, rfl, hC1, hm1⟩, hb⟩
          have L3 := (H2.out.next hb).next (below_alloc (Below.refl w3.heap.size w3) (.cells #[.int .i64 tk, .int .i64 tv, .int .u32 tf, .int .u32 td, .int .i64 tu, .slice B1 M1 C1, .int .i64 tn] 25))
          have HC1 := Aside0.mk (And.intro hC1 hm1)
          have H3 := Aside0.mk L3
          clear hb H2 L3 hC1 hm1 d1
          go_wp2_with fail
          refine (d2' _ (HLA.out.on H3.out.below).laid).mono ?_
          rintro e w4 ⟨⟨B2, M2, C2, rfl, hC2, hm2⟩, hb⟩
          have L4 := (H3.out.next hb).next (below_alloc (Below.refl w4.heap.size w4) (.cells #[.int .i64 tk, .int .i64 tv, .int .u32 tf, .int .u32 td, .int .i64 tu, .slice B2 M2 C2, .int .i64 tn] 25))
          have HC2 := Aside0.mk (And.intro hC2 hm2)
          have HX : (w4.alloc (.cells #[.int .i64 tk, .int .i64 tv, .int .u32 tf, .int .u32 td, .int .i64 tu, .slice B2 M2 C2, .int .i64 tn] 25)).heap[w3.heap.size]? = some (.cells #[.int .i64 tk, .int .i64 tv, .int .u32 tf, .int .u32 td, .int .i64 tu, .slice B1 M1 C1, .int .i64 tn] 25 (0, 0)) := ((below_alloc (Below.refl w4.heap.size w4) (.cells #[.int .i64 tk, .int .i64 tv, .int .u32 tf, .int .u32 td, .int .i64 tu, .slice B2 M2 C2, .int .i64 tn] 25)).block _ (Nat.lt_of_lt_of_le (blk_lt (heap_alloc_new w3 (.cells #[.int .i64 tk, .int .i64 tv, .int .u32 tf, .int .u32 td, .int .i64 tu, .slice B1 M1 C1, .int .i64 tn] 25))) hb.size)).trans ((hb.block _ (blk_lt (heap_alloc_new w3 (.cells #[.int .i64 tk, .int .i64 tv, .int .u32 tf, .int .u32 td, .int .i64 tu, .slice B1 M1 C1, .int .i64 tn] 25)))).trans (heap_alloc_new w3 _))
          have HY : (w4.alloc (.cells #[.int .i64 tk, .int .i64 tv, .int .u32 tf, .int .u32 td, .int .i64 tu, .slice B2 M2 C2, .int .i64 tn] 25)).heap[w4.heap.size]? = some (.cells #[.int .i64 tk, .int .i64 tv, .int .u32 tf, .int .u32 td, .int .i64 tu, .slice B2 M2 C2, .int .i64 tn] 25 (0, 0)) := heap_alloc_new w4 _
          have HB34 : Below w3.heap.size w3 (w4.alloc (.cells #[.int .i64 tk, .int .i64 tv, .int .u32 tf, .int .u32 td, .int .i64 tu, .slice B2 M2 C2, .int .i64 tn] 25)) := (below_alloc (Below.refl w3.heap.size w3) (.cells #[.int .i64 tk, .int .i64 tv, .int .u32 tf, .int .u32 td, .int .i64 tu, .slice B1 M1 C1, .int .i64 tn] 25)).trans ((hb.trans ((below_alloc (Below.refl w4.heap.size w4) (.cells #[.int .i64 tk, .int .i64 tv, .int .u32 tf, .int .u32 td, .int .i64 tu, .slice B2 M2 C2, .int .i64 tn] 25)).mono hb.size)).mono (by simp))
          have HB44 : Below w4.heap.size w4 (w4.alloc (.cells #[.int .i64 tk, .int .i64 tv, .int .u32 tf, .int .u32 td, .int .i64 tu, .slice B2 M2 C2, .int .i64 tn] 25)) := below_alloc (Below.refl w4.heap.size w4) (.cells #[.int .i64 tk, .int .i64 tv, .int .u32 tf, .int .u32 td, .int .i64 tu, .slice B2 M2 C2, .int .i64 tn] 25)
          have H4 := Aside0.mk L4
          have HXA := Aside0.mk (And.intro HX (And.intro HY (And.intro HB34 HB44)))
          clear hb H3 L4 hC2 hm2 d2' HX HY HB34 HB44
          go_wp2_with fail
          obtain ⟨w5, hw5⟩ : ∃ x, x = w4.alloc (.cells #[.int .i64 tk, .int .i64 tv, .int .u32 tf, .int .u32 td, .int .i64 tu, .slice B2 M2 C2, .int .i64 tn] 25) := ⟨_, rfl⟩
          rw [← hw5] at H4 HXA ⊢
          clear hw5
          have HX := HXA
          clear HXA
          have x0 : ∀ x : InD (fun W : World => Below w5.heap.size w5 W), x.val.cell? ⟨w3.heap.size, 0, none⟩ = some (.int .i64 tk) := fun x => (blk_cell ((x.ok.block _ (blk_lt HX.out.1)).trans HX.out.1) 0).trans rfl
          have x1 : ∀ x : InD (fun W : World => Below w5.heap.size w5 W), x.val.cell? ⟨w3.heap.size, 1, none⟩ = some (.int .i64 tv) := fun x => (blk_cell ((x.ok.block _ (blk_lt HX.out.1)).trans HX.out.1) 1).trans rfl
          have x2 : ∀ x : InD (fun W : World => Below w5.heap.size w5 W), x.val.cell? ⟨w3.heap.size, 2, none⟩ = some (.int .u32 tf) := fun x => (blk_cell ((x.ok.block _ (blk_lt HX.out.1)).trans HX.out.1) 2).trans rfl
          have x3 : ∀ x : InD (fun W : World => Below w5.heap.size w5 W), x.val.cell? ⟨w3.heap.size, 3, none⟩ = some (.int .u32 td) := fun x => (blk_cell ((x.ok.block _ (blk_lt HX.out.1)).trans HX.out.1) 3).trans rfl
          have x4 : ∀ x : InD (fun W : World => Below w5.heap.size w5 W), x.val.cell? ⟨w3.heap.size, 4, none⟩ = some (.int .i64 tu) := fun x => (blk_cell ((x.ok.block _ (blk_lt HX.out.1)).trans HX.out.1) 4).trans rfl
          have x5 : ∀ x : InD (fun W : World => Below w5.heap.size w5 W), x.val.cell? ⟨w3.heap.size, 5, none⟩ = some (.slice B1 M1 C1) := fun x => (blk_cell ((x.ok.block _ (blk_lt HX.out.1)).trans HX.out.1) 5).trans rfl
          have x6 : ∀ x : InD (fun W : World => Below w5.heap.size w5 W), x.val.cell? ⟨w3.heap.size, 6, none⟩ = some (.int .i64 tn) := fun x => (blk_cell ((x.ok.block _ (blk_lt HX.out.1)).trans HX.out.1) 6).trans rfl
          have y0 : ∀ x : InD (fun W : World => Below w5.heap.size w5 W), x.val.cell? ⟨w4.heap.size, 0, none⟩ = some (.int .i64 tk) := fun x => (blk_cell ((x.ok.block _ (blk_lt HX.out.2.1)).trans HX.out.2.1) 0).trans rfl
          have y1 : ∀ x : InD (fun W : World => Below w5.heap.size w5 W), x.val.cell? ⟨w4.heap.size, 1, none⟩ = some (.int .i64 tv) := fun x => (blk_cell ((x.ok.block _ (blk_lt HX.out.2.1)).trans HX.out.2.1) 1).trans rfl
          have y2 : ∀ x : InD (fun W : World => Below w5.heap.size w5 W), x.val.cell? ⟨w4.heap.size, 2, none⟩ = some (.int .u32 tf) := fun x => (blk_cell ((x.ok.block _ (blk_lt HX.out.2.1)).trans HX.out.2.1) 2).trans rfl
          have y3 : ∀ x : InD (fun W : World => Below w5.heap.size w5 W), x.val.cell? ⟨w4.heap.size, 3, none⟩ = some (.int .u32 td) := fun x => (blk_cell ((x.ok.block _ (blk_lt HX.out.2.1)).trans HX.out.2.1) 3).trans rfl
          have y4 : ∀ x : InD (fun W : World => Below w5.heap.size w5 W), x.val.cell? ⟨w4.heap.size, 4, none⟩ = some (.int .i64 tu) := fun x => (blk_cell ((x.ok.block _ (blk_lt HX.out.2.1)).trans HX.out.2.1) 4).trans rfl
          have y5 : ∀ x : InD (fun W : World => Below w5.heap.size w5 W), x.val.cell? ⟨w4.heap.size, 5, none⟩ = some (.slice B2 M2 C2) := fun x => (blk_cell ((x.ok.block _ (blk_lt HX.out.2.1)).trans HX.out.2.1) 5).trans rfl
          have y6 : ∀ x : InD (fun W : World => Below w5.heap.size w5 W), x.val.cell? ⟨w4.heap.size, 6, none⟩ = some (.int .i64 tn) := fun x => (blk_cell ((x.ok.block _ (blk_lt HX.out.2.1)).trans HX.out.2.1) 6).trans rfl
          have z0 : ∀ x : InD (fun W : World => Below w5.heap.size w5 W), x.val.cell? ⟨w.heap.size + 1, 0, none⟩ = some (.int .i64 k2) := fun x => (blk_cell ((x.ok.block _ (blk_lt H4.out.b2)).trans H4.out.b2) 0).trans rfl
          have z1 : ∀ x : InD (fun W : World => Below w5.heap.size w5 W), x.val.cell? ⟨w.heap.size + 1, 1, none⟩ = some (.int .u32 d2) := fun x => (blk_cell ((x.ok.block _ (blk_lt H4.out.b2)).trans H4.out.b2) 1).trans rfl
          have z2 : ∀ x : InD (fun W : World => Below w5.heap.size w5 W), x.val.cell? ⟨w.heap.size + 1, 2, none⟩ = some (.slice A2 m2 c2) := fun x => (blk_cell ((x.ok.block _ (blk_lt H4.out.b2)).trans H4.out.b2) 2).trans rfl
          have z3 : ∀ x : InD (fun W : World => Below w5.heap.size w5 W), x.val.cell? ⟨w.heap.size + 1, 3, none⟩ = some (.string name) := fun x => (blk_cell ((x.ok.block _ (blk_lt H4.out.b2)).trans H4.out.b2) 3).trans rfl
          have z4 : ∀ x : InD (fun W : World => Below w5.heap.size w5 W), x.val.cell? ⟨w.heap.size + 1, 4, none⟩ = some (.int .i64 span) := fun x => (blk_cell ((x.ok.block _ (blk_lt H4.out.b2)).trans H4.out.b2) 4).trans rfl
          have z5 : ∀ x : InD (fun W : World => Below w5.heap.size w5 W), x.val.cell? ⟨w.heap.size + 1, 5, none⟩ = some (.int .i64 freq) := fun x => (blk_cell ((x.ok.block _ (blk_lt H4.out.b2)).trans H4.out.b2) 5).trans rfl
          have cs : ∀ x : InD (fun W : World => Below w5.heap.size w5 W), Calls Tryz.prog 14 #[.agg #[.int .i64 tk, .int .i64 tv, .int .u32 tf, .int .u32 td, .int .i64 tu, .slice B1 M1 C1, .int .i64 tn], .agg #[.int .i64 tk, .int .i64 tv, .int .u32 tf, .int .u32 td, .int .i64 tu, .slice B2 M2 C2, .int .i64 tn]] x.val fun e w'' => e = .returned (.bool true) ∧ ∃ y : InD (fun W : World => Below w5.heap.size w5 W), w'' = y.val :=
            fun x => calls_in ((sm B1 M1 C1 B2 M2 C2 x.val (Kd.C_below (Kd.C_below HC1.out.1 HX.out.2.2.1) x.ok) HC1.out.2 (Kd.C_below (Kd.C_below HC2.out.1 HX.out.2.2.2) x.ok) HC2.out.2).mono fun _ _ ⟨he, hb⟩ => ⟨he, x.ok.trans (hb.mono x.ok.size)⟩)
          have co1 : ∀ x : InD (fun W : World => Below w5.heap.size w5 W), Calls Tryz.prog 15 #[.agg #[.int .i64 k2, .int .u32 d2, .slice A2 m2 c2, .string name, .int .i64 span, .int .i64 freq]] x.val fun e w'' => e = .returned (.string OB) ∧ ∃ y : InD (fun W : World => Below w5.heap.size w5 W), w'' = y.val :=
            fun x => calls_in ((o1 x.val (H4.out.below.trans (x.ok.mono H4.out.below.size))).mono fun _ _ ⟨he, hb⟩ => ⟨he, x.ok.trans (hb.mono x.ok.size)⟩)
          have co2 : ∀ x : InD (fun W : World => Below w5.heap.size w5 W), Calls Tryz.prog 16 #[.agg #[.int .i64 k2, .int .u32 d2, .slice A2 m2 c2, .string name, .int .i64 span, .int .i64 freq]] x.val fun e w'' => e = .returned (.string OB) ∧ ∃ y : InD (fun W : World => Below w5.heap.size w5 W), w'' = y.val :=
            fun x => calls_in ((o2 x.val (H4.out.below.trans (x.ok.mono H4.out.below.size))).mono fun _ _ ⟨he, hb⟩ => ⟨he, x.ok.trans (hb.mono x.ok.size)⟩)
          clear sm o1 o2
          haveI : Nonempty (InD (fun W : World => Below w5.heap.size w5 W)) := ⟨⟨_, (Below.refl w5.heap.size w5).drew⟩⟩
          refine wp_region_class (fun W : World => Below w5.heap.size w5 W) (by kernel_rfl) (by kernel_rfl) (Below.refl w5.heap.size w5).drew ?_
          repeat (go_big_quiet_step (first | with_reducible exact cs _ | with_reducible exact co1 _ | with_reducible exact co2 _))
          refine wpQuiet_nil ?_
          clear cs co1 co2
          intro x
          obtain ⟨W, hW⟩ : ∃ W, W = x.val := ⟨_, rfl⟩
          have hb := H4.out.below.trans (x.ok.mono H4.out.below.size)
          rw [← hW] at hb ⊢
          clear hW x this x0 y0 x1 y1 x2 y2 x3 y3 x4 y4 x5 y5 x6 y6 z0 z1 z2 z3 z4 z5
          go_wp2_with fail
          go_ret
          exact ⟨rfl, hb⟩
        · -- the names are long
          have c1' : decide (65536 < (m : Int)) = false := decide_eq_false (by omega)
          have c2' : decide (65536 < ((ba s).size : Int)) = false := decide_eq_false (by omega)
          have c3' : decide (65536 < (m2 : Int)) = false := decide_eq_false (by omega)
          have c4' : decide (65536 < (name.size : Int)) = true := decide_eq_true (by omega)
          clear h1 h2 h3 h4 hsz
          unfold evV outV
          go_enter Tryz.func4, Tryz.ntmps4
          go_wp2_with fail
          go_ret
          exact ⟨rfl, below_alloc (below_alloc (Below.refl _ _) _) _⟩
      · -- the out's data are long
        have c1' : decide (65536 < (m : Int)) = false := decide_eq_false (by omega)
        have c2' : decide (65536 < ((ba s).size : Int)) = false := decide_eq_false (by omega)
        have c3' : decide (65536 < (m2 : Int)) = true := decide_eq_true (by omega)
        clear h1 h2 h3 hsz
        unfold evV outV
        go_enter Tryz.func4, Tryz.ntmps4
        go_wp2_with fail
        go_ret
        exact ⟨rfl, below_alloc (below_alloc (Below.refl _ _) _) _⟩
    · -- the line is long
      have c1' : decide (65536 < (m : Int)) = false := decide_eq_false (by omega)
      have c2' : decide (65536 < ((ba s).size : Int)) = true := decide_eq_true (by omega)
      clear h1 h2 hsz
      unfold evV outV
      go_enter Tryz.func4, Tryz.ntmps4
      go_wp2_with fail
      go_ret
      exact ⟨rfl, below_alloc (below_alloc (Below.refl _ _) _) _⟩
  · -- the event's data are long
    have c1' : decide (65536 < (m : Int)) = true := decide_eq_true (by omega)
    clear h1 hsz
    unfold evV outV
    go_enter Tryz.func4, Tryz.ntmps4
    go_wp2_with fail
    go_ret
    exact ⟨rfl, below_alloc (below_alloc (Below.refl _ _) _) _⟩
end Go.Proofs.YtdndmbcejoodpaaGreatDoor
namespace Go.Proofs.YtdndmbcejoodpaaGreatDoor
open Go.ChangeShapes Go.WideShapes Go.ChangeAt Go.RowKit Go.Proofs.YtdndmbcejoodpaaGreatDoorW.PrintWords Go.Proofs.YtdndmbcejoodpaaGreatDoorW.PrintLast Go.Proofs.YtdndmbcejoodpaaGreatDoorW.PrintMore
set_option linter.unusedVariables false
set_option linter.unusedSimpArgs false
section
variable {H : Type} {enc : TypeId × Value → H} {W : World}
theorem cells_int : Tryz.prog.cellsOf 3 = 1 := by kernel_rfl
theorem cells_addr : Tryz.prog.cellsOf 22 = 1 := by kernel_rfl
theorem cells_bytes : Tryz.prog.cellsOf 23 = 1 := by kernel_rfl
theorem cells_string : Tryz.prog.cellsOf 9 = 1 := by kernel_rfl
theorem cells_span : Tryz.prog.cellsOf 33 = 1 := by kernel_rfl
theorem cells_freq : Tryz.prog.cellsOf 34 = 1 := by kernel_rfl
theorem cells_event : Tryz.prog.cellsOf 25 = 7 := by kernel_rfl
theorem cells_out : Tryz.prog.cellsOf 36 = 6 := by kernel_rfl
theorem wf_i64 {n : Int} (h : (Lit.int .i64 n).wf = true) : -9223372036854775808 ≤ n ∧ n ≤ 9223372036854775807 := by
  simp [Lit.wf, IntKind.min, IntKind.max, IntKind.signed, IntKind.bits] at h
  omega
theorem wf_u32 {n : Int} (h : (Lit.int .u32 n).wf = true) : 0 ≤ n ∧ n < 4294967296 := by
  simp [Lit.wf, IntKind.min, IntKind.max, IntKind.signed, IntKind.bits] at h
  omega
theorem wf_u8 {n : Int} (h : (Lit.int .u8 n).wf = true) : 0 ≤ n ∧ n < 256 := by
  simp [Lit.wf, IntKind.min, IntKind.max, IntKind.signed, IntKind.bits] at h
  omega
theorem open_i64 {t : TypeId} (ht : Tryz.prog.underlying t = some (.int .i64)) {fuel : Nat} {a : Value} {x : DataW H × List MemPlace} (h : DataW.trod enc Tryz.prog W 0 (fun _ => true) true fuel t [a] = some x) : ∃ n, a = .int .i64 n ∧ -9223372036854775808 ≤ n ∧ n ≤ 9223372036854775807 := by
  obtain ⟨n, h1, _, h2⟩ := DataW.trod_int ht h
  exact ⟨n, by simpa using h1, wf_i64 h2⟩
theorem open_u32 {t : TypeId} (ht : Tryz.prog.underlying t = some (.int .u32)) {fuel : Nat} {a : Value} {x : DataW H × List MemPlace} (h : DataW.trod enc Tryz.prog W 0 (fun _ => true) true fuel t [a] = some x) : ∃ n, a = .int .u32 n ∧ 0 ≤ n ∧ n < 4294967296 := by
  obtain ⟨n, h1, _, h2⟩ := DataW.trod_int ht h
  exact ⟨n, by simpa using h1, wf_u32 h2⟩
theorem open_data {fuel : Nat} {a : Value} {x : DataW H × List MemPlace} (h : DataW.trod enc Tryz.prog W 0 (fun _ => true) true fuel 23 [a] = some x) :
    ∃ (A : Option Addr) (m c : Nat) (l : List Int), a = .slice A m c ∧ m ≤ c ∧ Kd.C (Kd.int .u8) W A m l ∧ ∀ b ∈ l, 0 ≤ b ∧ b < 256 := by
  rcases open_ints Tryz.underlying23 Tryz.underlying5 (by kernel_rfl) h with ⟨hcs, _⟩ | ⟨ad, len, cap, zs, hcs, _, hl, hm, hz, _, hcell, hwz⟩
  · exact ⟨none, 0, 0, [], by simpa using hcs, Nat.le_refl _, Kd.C_nil _ _, by simp⟩
  · have hz' : zs.length = cap := by simpa using hz
    refine ⟨some ad, len, cap, zs.take len, by simpa using hcs, hl, ?_, fun b hb => wf_u8 (hwz b (List.mem_of_mem_take hb))⟩
    have hr : ReadsOf (Value.int .u8) (0 : Int) W (some ad) len (zs.take len) := by
      refine ⟨by rw [List.length_take]; omega, by simp only [maxLen] at hm; omega, fun _ => ⟨ad, rfl, fun j hj => ?_⟩⟩
      rw [hcell j (by omega)]
      congr 2
      rw [List.getD_eq_getElem?_getD, List.getD_eq_getElem?_getD, List.getElem?_take_of_lt hj]
    exact Kd.C_of_reads (h1 := fun _ => rfl) hr
set_option maxRecDepth 100000 in
theorem open_event {base : Nat} {v : Value} {d : DataW H} {ps : List MemPlace} (hval : Value.okWide Tryz.prog W .any base 25 v) (h : DataW.Trod enc Tryz.prog W 0 (fun _ => true) true 25 v d ps) :
    ∃ (kind wait frm dst unit : Int) (A : Option Addr) (m c : Nat) (l : List Int) (n : Int), v = evV kind wait frm dst unit A m c n ∧ EvIn W kind wait frm dst unit A m c l n := by
  obtain ⟨cs, rfl, hsz⟩ := okWide_struct Tryz.underlying25 hval
  obtain ⟨fuel, hf⟩ := h
  obtain ⟨xs, n', rfl, hx, hl, hxl, hfield⟩ := DataW.trod_struct Tryz.underlying25 hf
  rw [cells_event] at hsz
  have hlen : cs.toList.length = 7 := by simpa using hsz
  obtain ⟨L, hL⟩ : ∃ L, L = cs.toList := ⟨_, rfl⟩
  have hcs : cs = L.toArray := by rw [hL]
  have hfield' := fun i f hi => hfield i f hi
  simp only [Value.cells] at hfield'
  rw [← hL] at hfield' hlen
  clear hfield hL hf hl hval hx
  subst hcs
  have hxl' : xs.length = 7 := hxl
  match L, hlen, xs, hxl' with
  | [a0, a1, a2, a3, a4, a5, a6], _, [x0, x1, x2, x3, x4, x5, x6], _ =>
    have e0 := hfield' 0 _ rfl
    have e1 := hfield' 1 _ rfl
    have e2 := hfield' 2 _ rfl
    have e3 := hfield' 3 _ rfl
    have e4 := hfield' 4 _ rfl
    have e5 := hfield' 5 _ rfl
    have e6 := hfield' 6 _ rfl
    simp only [cells_int, cells_addr, cells_bytes, List.drop, List.take, List.getElem?_cons_zero, List.getElem?_cons_succ] at e0 e1 e2 e3 e4 e5 e6
    obtain ⟨k, rfl, _⟩ := open_i64 Tryz.underlying3 e0
    obtain ⟨wt, rfl, hw⟩ := open_i64 Tryz.underlying3 e1
    obtain ⟨f, rfl, hf⟩ := open_u32 Tryz.underlying22 e2
    obtain ⟨t, rfl, ht⟩ := open_u32 Tryz.underlying22 e3
    obtain ⟨u, rfl, hu⟩ := open_i64 Tryz.underlying3 e4
    obtain ⟨A, m, c, l, rfl, hmc, hC, hb⟩ := open_data e5
    obtain ⟨n, rfl, hn⟩ := open_i64 Tryz.underlying3 e6
    exact ⟨k, wt, f, t, u, A, m, c, l, n, rfl, hC, hmc, hb, hw, hf, ht, hu, hn⟩
set_option maxRecDepth 100000 in
theorem open_out {base : Nat} {v : Value} {d : DataW H} {ps : List MemPlace} (hval : Value.okWide Tryz.prog W .any base 36 v) (h : DataW.Trod enc Tryz.prog W 0 (fun _ => true) true 36 v d ps) :
    ∃ (kind dst : Int) (A : Option Addr) (m c : Nat) (l : List Int) (name : ByteArray) (span freq : Int), v = outV kind dst A m c name span freq ∧ OutIn W dst A m c l span freq := by
  obtain ⟨cs, rfl, hsz⟩ := okWide_struct Tryz.underlying36 hval
  obtain ⟨fuel, hf⟩ := h
  obtain ⟨xs, n', rfl, hx, hl, hxl, hfield⟩ := DataW.trod_struct Tryz.underlying36 hf
  rw [cells_out] at hsz
  have hlen : cs.toList.length = 6 := by simpa using hsz
  obtain ⟨L, hL⟩ : ∃ L, L = cs.toList := ⟨_, rfl⟩
  have hcs : cs = L.toArray := by rw [hL]
  have hfield' := fun i f hi => hfield i f hi
  simp only [Value.cells] at hfield'
  rw [← hL] at hfield' hlen
  clear hfield hL hf hl hval hx
  subst hcs
  have hxl' : xs.length = 6 := hxl
  match L, hlen, xs, hxl' with
  | [a0, a1, a2, a3, a4, a5], _, [x0, x1, x2, x3, x4, x5], _ =>
    have e0 := hfield' 0 _ rfl
    have e1 := hfield' 1 _ rfl
    have e2 := hfield' 2 _ rfl
    have e3 := hfield' 3 _ rfl
    have e4 := hfield' 4 _ rfl
    have e5 := hfield' 5 _ rfl
    simp only [cells_int, cells_addr, cells_bytes, cells_string, cells_span, cells_freq, List.drop, List.take, List.getElem?_cons_zero, List.getElem?_cons_succ] at e0 e1 e2 e3 e4 e5
    obtain ⟨k, rfl, _⟩ := open_i64 Tryz.underlying3 e0
    obtain ⟨t, rfl, ht⟩ := open_u32 Tryz.underlying22 e1
    obtain ⟨A, m, c, l, rfl, hmc, hC, hb⟩ := open_data e2
    have e3 : DataW.trod enc Tryz.prog W 0 (fun _ => true) true n' 9 [a3] = some x3 := e3
    obtain ⟨nm, hnm, _, _⟩ := DataW.trod_string Tryz.underlying9 e3
    obtain rfl : a3 = .string nm := by simpa using hnm
    obtain ⟨sp, rfl, hsp⟩ := open_i64 Tryz.underlying33 e4
    obtain ⟨fr, rfl, hfr⟩ := open_i64 Tryz.underlying34 e5
    exact ⟨k, t, A, m, c, l, nm, sp, fr, rfl, hC, hb, ht, hsp, hfr⟩
end
end Go.Proofs.YtdndmbcejoodpaaGreatDoor
