/- For every text s and address a of bounded bulk ConfAddrs returns true and leaves its arguments as they were: conf.Addr and the reference's are one function (addrP), so are the two PrintAddr (printP), and each reads back what the other writes. CONDITION: the arguments hold together at most 1048576 values and letters (uptoSmall), and the listed library variables hold what the program's text lays (the card ties them). -/
import Derived.Test.YtdndmbcejoodpaaDoorCDig
import Derived.Test.YtdndmbcejoodpaaDoorRows
import Derived.ProofKit
import Derived.OpenShut
import Derived.Deep.DeepHandedRow
import Derived.Lib.LaidTab
namespace Go.Proofs.YtdndmbcejoodpaaDoor
open Go.RowKit Go.Proofs.YtdndmbcejoodpaaDoorW.PrintWords Go.Proofs.YtdndmbcejoodpaaDoorW.PrintLast Go.Proofs.YtdndmbcejoodpaaDoorW.PrintMore
set_option linter.unusedVariables false
set_option linter.unusedSimpArgs false
set_option maxRecDepth 100000 in
set_option maxHeartbeats 2000000 in
theorem law_calls (s : ByteArray) (a : Int) (h0 : 0 ≤ a) (h1 : a < 4294967296) (hs : s.size < 4294967281) (w : World) (HV : Laid w) :
    Calls Tryd.prog 3 #[.string s, .int .u32 a] w fun e w' => e = .returned (.bool true) ∧ Below w.heap.size w w' := by
  have HVA := Aside0.mk HV
  clear HV
  have hp := print_len a
  have hps : (⟨(printP a).toArray⟩ : ByteArray).size < 4294967281 := by simp only [ByteArray.size, List.size_toArray]; omega
  have c1 := fun W HW => addr_calls s W HW hs
  have c2 := fun W => refAddr_calls s W hs
  have c3 := fun W HW => printAddr_calls a h0 h1 W HW
  have c4 := fun W HW => addr_calls ⟨(printP a).toArray⟩ W HW hps
  have c5 := fun W => refPrint_calls a h0 h1 W
  have e4 : addrP (⟨(printP a).toArray⟩ : ByteArray).data.toList = (a, 0) := addr_print a h0 h1
  rw [e4] at c4
  have hc := addrP_cases s.data.toList
  obtain ⟨P, hP⟩ : ∃ X, X = (⟨(printP a).toArray⟩ : ByteArray) := ⟨_, rfl⟩
  rw [← hP] at c3 c4 c5
  clear hP e4 hp hps
  have hpp : (P.toList == P.toList) = true := by simp
  rcases hc with hx | ⟨x, hx0, hx1, hx⟩
  · rw [hx] at c1 c2
    simp only [addrV] at c1 c2 c4
    clear hx
    go_enter Tryd.func3, Tryd.ntmps3
    go_wp2_with fail
    refine (c1 w HVA.out).mono ?_
    rintro e w1 ⟨rfl, hb1⟩
    have HV1 := Aside0.mk (HVA.out.on hb1)
    go_wp2_with fail
    refine (c2 w1).mono ?_
    rintro e w2 ⟨rfl, hb2⟩
    have HV2 := Aside0.mk (HV1.out.on hb2)
    replace hb2 := hb1.trans (hb2.mono hb1.size)
    clear HV1 hb1
    go_wp2_with fail
    refine (c3 w2 HV2.out).mono ?_
    rintro e w3 ⟨rfl, hb3⟩
    have HV3 := Aside0.mk (HV2.out.on hb3)
    replace hb3 := hb2.trans (hb3.mono hb2.size)
    clear HV2 hb2
    go_wp2_with fail
    refine (c4 w3 HV3.out).mono ?_
    rintro e w4 ⟨rfl, hb4⟩
    replace hb4 := hb3.trans (hb4.mono hb3.size)
    clear HV3 hb3
    go_wp2_with fail
    refine (c5 w4).mono ?_
    rintro e w5 ⟨rfl, q, rfl⟩
    go_wp2_with fail
    go_ret
    exact ⟨rfl, pw_below_drewN hb4 _⟩
  · obtain ⟨hb, _, _⟩ := addr_back hx
    have c6 := fun W HW => printAddr_calls x hx0 hx1 W HW
    rw [hb] at c6
    have hss : (⟨(s.data.toList).toArray⟩ : ByteArray) = s := rfl
    rw [hss] at c6
    have hse : (s.toList == s.toList) = true := by simp
    rw [hx] at c1 c2
    simp only [addrV] at c1 c2 c4
    clear hx hb hss
    go_enter Tryd.func3, Tryd.ntmps3
    go_wp2_with fail
    refine (c1 w HVA.out).mono ?_
    rintro e w1 ⟨rfl, hb1⟩
    have HV1 := Aside0.mk (HVA.out.on hb1)
    go_wp2_with fail
    refine (c2 w1).mono ?_
    rintro e w2 ⟨rfl, hb2⟩
    have HV2 := Aside0.mk (HV1.out.on hb2)
    replace hb2 := hb1.trans (hb2.mono hb1.size)
    clear HV1 hb1
    go_wp2_with fail
    refine (c3 w2 HV2.out).mono ?_
    rintro e w3 ⟨rfl, hb3⟩
    have HV3 := Aside0.mk (HV2.out.on hb3)
    replace hb3 := hb2.trans (hb3.mono hb2.size)
    clear HV2 hb2
    go_wp2_with fail
    refine (c4 w3 HV3.out).mono ?_
    rintro e w4 ⟨rfl, hb4⟩
    have HV4 := Aside0.mk (HV3.out.on hb4)
    replace hb4 := hb3.trans (hb4.mono hb3.size)
    clear HV3 hb3
    go_wp2_with fail
    refine (c5 w4).mono ?_
    rintro e w5 ⟨rfl, q, rfl⟩
    go_wp2_with fail
    refine (c6 _ (HV4.out.below (B := w4.heap.size) (pw_below_drewN (Below.refl _ _) q) (Nat.le_refl _))).mono ?_
    rintro e w6 ⟨rfl, hb6⟩
    go_wp2_with fail
    go_ret
    exact ⟨rfl, hb4.trans ((show Below w4.heap.size w4 w6 from (pw_below_drewN (Below.refl _ _) q).trans hb6).mono hb4.size)⟩
end Go.Proofs.YtdndmbcejoodpaaDoor
