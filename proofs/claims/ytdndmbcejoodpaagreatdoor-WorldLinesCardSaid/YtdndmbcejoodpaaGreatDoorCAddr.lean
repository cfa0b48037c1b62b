/- The walks of conf.Addr and conf.PrintAddr. -/
import Derived.Test.YtdndmbcejoodpaaGreatDoorCNum
import Derived.Test.YtdndmbcejoodpaaGreatDoorWLast
import Derived.Test.YtdndmbcejoodpaaGreatDoorWMore
import Derived.WalkSmall
import Derived.Deep.LoopGhost
import Derived.Laws.BitsLemmas
import Derived.Lib.LaidTab
namespace Go.Proofs.YtdndmbcejoodpaaGreatDoor
open Go.RowKit Go.Proofs.YtdndmbcejoodpaaGreatDoorW.PrintWords Go.Proofs.YtdndmbcejoodpaaGreatDoorW.PrintLast Go.Proofs.YtdndmbcejoodpaaGreatDoorW.PrintMore
set_option linter.unusedVariables false
/-- The library's variables that the conversions read. -/
structure Laid (w : World) : Prop where
  tab : Lib.TabIs Tryz.prog w "internal/strconv.uint64pow10" .u64 Lib.pow10Tab
  mx : ∃ m, w.cell? ⟨0, 0, none⟩ = some (.int .i64 m)
theorem tab_named : Tryz.prog.globalNamed "internal/strconv.uint64pow10" = some 3 := by kernel_rfl
theorem cell_belowB {B : Nat} {w w' : World} {g off : Nat} {v : Value} (h : w.cell? ⟨g, off, none⟩ = some v) (hb : Below B w w') (hg : g < B) : w'.cell? ⟨g, off, none⟩ = some v := by
  unfold World.cell? at h ⊢
  rw [hb.block g hg]
  exact h
theorem Laid.below {B : Nat} {w w' : World} (h : Laid w) (hb : Below B w w') (hB : w.heap.size ≤ B) : Laid w' := by
  obtain ⟨m, hm⟩ := h.mx
  have h1 := World.block_lt_of_cell? w _ hm
  have h2 := World.block_lt_of_cell? w _ (h.tab.cell tab_named 0 (by decide))
  exact ⟨var?_below hb tab_named (Nat.lt_of_lt_of_le h2 hB) h.tab, m, cell_belowB hm hb (Nat.lt_of_lt_of_le h1 hB)⟩
theorem Laid.on {w w' : World} (h : Laid w) (hb : Below w.heap.size w w') : Laid w' := h.below hb (Nat.le_refl _)
theorem itoa_calls (n : Int) (h0 : -9223372036854775808 ≤ n) (h1 : n ≤ 9223372036854775807) (w : World) (HV : Laid w) :
    Calls Tryz.prog 26 #[.int .i64 n] w fun e w' => e = .returned (.string ⟨(Lib.itoa n).toArray⟩) ∧ Below w.heap.size w w' :=
  (Tryz.strconv_Itoa n h0 h1 w HV.tab).mono fun _ _ ⟨he, k, os, hw⟩ => ⟨he, by rw [hw]; exact ⟨rfl, rfl, rfl, by simp [Go.Sort.grow, World.drewN], fun i hi => by simp only [Go.Sort.grow, World.drewN]; rw [Array.getElem?_append_left hi]⟩⟩

/-! ### Split at one byte -/
theorem occ_one (c : UInt8) (l : List UInt8) (i : Nat) : Lib.occAt l [c] i = true ↔ l[i]? = some c := by
  unfold Lib.occAt
  cases h : l.drop i with
  | nil =>
    have : l.length ≤ i := by simpa using h
    rw [List.getElem?_eq_none this]
    simp [List.isPrefixOf]
  | cons a r =>
    have : l[i]? = some a := by
      have := congrArg List.head? h
      simpa using this
    rw [this]
    simp only [List.isPrefixOf, Bool.and_true, beq_iff_eq, Option.some.injEq]
    exact eq_comm
theorem index_at (c : UInt8) (cur r : List UInt8) (h : ∀ x ∈ cur, x ≠ c) : Lib.index (cur ++ c :: r) [c] = (cur.length : Nat) := by
  refine Lib.index_first (by simp) ((occ_one c _ _).2 (by simp)) (fun j hj => ?_)
  cases hq : Lib.occAt (cur ++ c :: r) [c] j with
  | false => rfl
  | true =>
    have := (occ_one c _ _).1 hq
    rw [List.getElem?_append_left hj] at this
    exact absurd rfl (h c (List.mem_of_getElem? this))
theorem split_is (c : UInt8) : ∀ (l cur : List UInt8), (∀ x ∈ cur, x ≠ c) → Lib.splitK [c] 0 (Lib.count l [c]) (cur ++ l) = splitP c cur l := by
  intro l
  induction l with
  | nil =>
    intro cur _
    rw [Lib.count_one]
    simp [Lib.splitK, splitP]
  | cons a r ih =>
    intro cur hc
    by_cases h : a = c
    · subst h
      have hi := index_at a cur r hc
      rw [Lib.count_cons_eq, Nat.add_comm, Lib.splitK, hi, if_neg (by simp), splitP, if_pos rfl]
      have e1 : ((cur.length : Nat) : Int).toNat = cur.length := by simp
      rw [e1]
      simp only [Nat.add_zero, List.take_left', List.length_cons, List.length_nil, Nat.zero_add]
      rw [show cur ++ a :: r = (cur ++ [a]) ++ r by simp, List.drop_left' (by simp), ← ih [] (by simp)]
      simp
    · rw [Lib.count_cons_ne a c r h, splitP, if_neg h, ← ih (cur ++ [a]) (by intro x hx; simp only [List.mem_append, List.mem_singleton] at hx; rcases hx with hx | rfl; exact hc x hx; exact h)]
      simp
theorem pieces_is (s : ByteArray) (c : UInt8) : ((Lib.splitB ⟨#[c]⟩ 0 (Lib.countB s ⟨#[c]⟩) s).map (·.data.toList)) = splitP c [] s.data.toList := by
  rw [Lib.splitB_data]
  exact split_is c s.data.toList [] (by simp)
theorem one_size (c : UInt8) : 1 ≤ (⟨#[c]⟩ : ByteArray).size := Nat.le_refl _
theorem split_calls (s : ByteArray) (c : UInt8) (w : World) (HV : Laid w) (hs : s.size < 4294967281) :
    Calls Tryz.prog 34 #[.string s, .string ⟨#[c]⟩] w fun e w' => ∃ ps : List ByteArray, ps.map (·.data.toList) = splitP c [] s.data.toList ∧ ps.length ≤ s.size + 1 ∧ e = .returned (.slice (some ⟨w.heap.size, 0, none⟩) ps.length ps.length) ∧ w'.heap[w.heap.size]? = some (.cells (ps.map Value.string).toArray 9 (0, 0)) ∧ Below w.heap.size w w' := by
  obtain ⟨m, hm⟩ := HV.mx
  refine (Tryz.strings_Split s ⟨#[c]⟩ m w hs hm (one_size c)).mono ?_
  rintro e w' ⟨rfl, rfl⟩
  refine ⟨_, pieces_is s c, ?_, ?_, heap_alloc_new w _, below_alloc (Below.refl _ _) _⟩
  · rw [Lib.splitB_all _ (one_size c) 0 _ s rfl]
    have := Lib.countB_le ⟨#[c]⟩ (one_size c) s.size s (Nat.le_refl _)
    omega
  · rw [Lib.splitB_all _ (one_size c) 0 _ s rfl]
theorem splitP_le (c : UInt8) : ∀ (l cur p : List UInt8), p ∈ splitP c cur l → p.length ≤ cur.length + l.length := by
  intro l
  induction l with
  | nil => intro cur p h; simp only [splitP, List.mem_singleton] at h; rw [h]; simp
  | cons a r ih =>
    intro cur p h
    unfold splitP at h
    split at h
    · simp only [List.mem_cons] at h
      rcases h with rfl | h
      · omega
      · have := ih _ _ h; simp only [List.length_nil, List.length_cons] at this ⊢; omega
    · have := ih _ _ h; simp only [List.length_append, List.length_cons, List.length_nil] at this ⊢; omega
theorem wraps_u32 (n : Int) (h₀ : 0 ≤ n) (h₁ : n < 2 ^ 32) : IntKind.u32.wrap n = n := by rw [IntKind.wrap_u32]; omega
theorem or_byte (a n : Int) (h0 : 0 ≤ a) (h1 : a < 16777216) (h2 : 0 ≤ n) (h3 : n ≤ 255) : Go.bits .or .u32 (a * 256) n = a * 256 + n :=
  bits_join .u32 32 (by decide) wraps_u32 8 (a * 256) n (by omega) (by omega) (by omega) h2 (by omega) (by omega)
theorem and_byte (a : Int) (h0 : 0 ≤ a) (h1 : a < 4294967296) : Go.bits .and .u32 a 255 = a % 256 :=
  bits_mask .u32 32 (by decide) wraps_u32 8 (by decide) a h0 (by omega)
def addrV (x : Int × Int) : Value := .tuple #[.int .u32 x.1, .int .i64 x.2]
set_option maxRecDepth 100000 in
set_option maxHeartbeats 2000000 in
theorem addr_calls (s : ByteArray) (w : World) (HV : Laid w) (hs : s.size < 4294967281) :
    Calls Tryz.prog 37 #[.string s] w fun e w' => e = .returned (addrV (addrP s.data.toList)) ∧ Below w.heap.size w w' := by
  have HS := fun W HW => split_calls s 46 W HW hs
  have HVA := Aside0.mk HV
  clear HV
  obtain ⟨X, hX⟩ : ∃ X, X = addrP s.data.toList := ⟨_, rfl⟩
  rw [← hX]
  have HX := Aside0.mk hX
  clear hX
  go_enter Tryz.func37, Tryz.ntmps37
  go_wp2_with fail
  refine (HS _ HVA.out).mono ?_
  rintro e w1 ⟨ps, hps, hlen, rfl, hblk, hb⟩
  clear HS
  have HP := Aside0.mk hps
  have HK := Aside0.mk hblk
  clear hps hblk
  have hg0 : w.heap.size < w1.heap.size := blk_lt HK.out
  have hnum : ∀ (p : ByteArray) (W : World), p.size ≤ s.size → Calls Tryz.prog 81 #[.string p] W fun e w' => e = .returned (numV (numP p.data.toList)) ∧ Below W.heap.size W w' := fun p W hp => number_calls p W (by omega)
  have hcell : ∀ (k : Nat) (W : World), Below w1.heap.size w1 W → ∀ h : k < ps.length, W.cell? ⟨w.heap.size, k, none⟩ = some (.string ps[k]) := fun k W hW hk =>
    cell_belowB ((blk_cell HK.out k).trans (by simp [hk])) hW hg0
  have hpsz : ∀ k (h : k < ps.length), (ps[k]).size ≤ s.size := fun k h => by
    have h1 : (ps[k]).data.toList ∈ splitP 46 [] s.data.toList := by rw [← HP.out]; exact List.mem_map.2 ⟨ps[k], List.getElem_mem h, rfl⟩
    have h2 := splitP_le 46 s.data.toList [] _ h1
    simp only [List.length_nil, Nat.zero_add, Array.length_toList] at h2
    exact h2
  have HF := Aside0.mk (And.intro hnum (And.intro hcell hpsz))
  clear hnum hcell hpsz
  have hne : 0 < ps.length := by
    have h1 := splitP_ne 46 s.data.toList []
    rw [← HP.out] at h1
    cases ps with
    | nil => simp at h1
    | cons _ _ => simp
  by_cases h4 : ps.length = 4
  · have HA : X = addrL (ps.map (·.data.toList)) 0 := by
      rw [HX.out, HP.out]
      unfold addrP
      rw [if_pos]
      rw [← HP.out, List.length_map, h4]
    replace HX := Aside0.mk HA
    clear HA
    have H4 := Aside0.mk h4
    have h4' : (ps.length : Int) = 4 := by omega
    clear h4 hlen hne
    go_wp2_with fail
    go_loopw [5, 14] (fun v5 v14 wr => ∃ (k : Nat) (acc : Int), k ≤ 4 ∧ v14 = .int .i64 k ∧ v5 = .int .u32 acc ∧ Aside0 (0 ≤ acc ∧ (acc + 1) * 256 ^ (4 - k) ≤ 4294967296) ∧ Aside0 (X = addrL ((ps.map (·.data.toList)).drop k) acc) ∧ Below w1.heap.size w1 wr) (fun _ v14 _ => 4 - (RowKit.intOf v14).toNat)
    case atStart => exact ⟨0, 0, by omega, rfl, rfl, ⟨by decide⟩, HX, Below.refl _ _⟩
    case round =>
      obtain ⟨k, acc, hk, rfl, rfl, HB, HL, hbr⟩ := hrel
      by_cases hlt : k < 4
      · have hc := HF.out.2.1 k wr hbr (by rw [H4.out]; exact hlt)
        have hn := HF.out.1 (ps[k]'(by rw [H4.out]; exact hlt)) wr (HF.out.2.2 k _)
        have hd : (ps.map (·.data.toList)).drop k = (ps[k]'(by rw [H4.out]; exact hlt)).data.toList :: (ps.map (·.data.toList)).drop (k + 1) := by
          rw [List.drop_eq_getElem_cons (by simp [H4.out]; exact hlt)]
          simp
        rw [hd] at HL
        generalize ps[k]'(by rw [H4.out]; exact hlt) = p at *
        clear hd
        have hltz : (k : Int) < 4 := by omega
        cases hv : numP p.data.toList with
        | none =>
          have HX2 : X = (0, 52) := by rw [HL.out]; simp [addrL, hv]
          rw [hv] at hn
          simp only [numV, Option.getD_none, Option.isSome_none] at hn
          replace HX2 := Aside0.mk HX2
          clear hv HL HX HF HP
          go_wp2_with (go_at_call 81; refine hn.mono ?_; rintro e w2 ⟨rfl, hb2⟩)
          go_ret2
          rw [HX2.out]
          exact ⟨rfl, (hb.trans (hbr.mono hb.size)).trans (hb2.mono (Nat.le_trans hb.size hbr.size))⟩
        | some n =>
          have hn0 := (numP_some hv).1
          rw [hv] at hn
          simp only [numV, Option.getD_some, Option.isSome_some] at hn
          by_cases h255 : n > 255
          · have HX2 : X = (0, 52) := by rw [HL.out]; simp [addrL, hv, h255]
            replace HX2 := Aside0.mk HX2
            clear hv HL HX HF HP
            go_wp2_with (go_at_call 81; refine hn.mono ?_; rintro e w2 ⟨rfl, hb2⟩)
            go_ret2
            rw [HX2.out]
            exact ⟨rfl, (hb.trans (hbr.mono hb.size)).trans (hb2.mono (Nat.le_trans hb.size hbr.size))⟩
          · have HL2 : X = addrL ((ps.map (·.data.toList)).drop (k + 1)) (acc * 256 + n) := by rw [HL.out]; simp [addrL, hv, h255]
            have hacc : 0 ≤ acc ∧ acc < 16777216 ∧ (acc * 256 + n + 1) * 256 ^ (4 - (k + 1)) ≤ 4294967296 := by
              have h1 := HB.out
              have hk4 : k = 0 ∨ k = 1 ∨ k = 2 ∨ k = 3 := by omega
              rcases hk4 with rfl | rfl | rfl | rfl <;> simp only [Nat.sub_zero, Nat.reduceAdd, Nat.reduceSub] at h1 ⊢ <;> omega
            have hor := or_byte acc n hacc.1 hacc.2.1 hn0 (by omega)
            have ha0 := hacc.1
            have ha1 := hacc.2.1
            have HB2 := Aside0.mk (And.intro (show 0 ≤ acc * 256 + n by omega) hacc.2.2)
            replace HL2 := Aside0.mk HL2
            have hn255 : n ≤ 255 := by omega
            clear hv HL HX HP HB hacc h255
            go_wp2_with (go_at_call 81; refine hn.mono ?_; rintro e w2 ⟨rfl, hb2⟩)
            go_roundw
            case measure => simp [RowKit.intOf]; omega
            case rel => exact ⟨k + 1, acc * 256 + n, by omega, by go_num, rfl, HB2, HL2, hbr.trans (hb2.mono hbr.size)⟩
      · obtain rfl : k = 4 := by omega
        have HX2 : X = (acc, 0) := by
          rw [HL.out, List.drop_eq_nil_of_le (by simp [H4.out])]
          rfl
        replace HX2 := Aside0.mk HX2
        clear HL HX HF HP
        go_wp2_with fail
        go_ret2
        rw [HX2.out]
        exact ⟨rfl, hb.trans (hbr.mono hb.size)⟩
  · have HX2 : X = (0, 52) := by
      rw [HX.out]
      unfold addrP
      rw [if_neg]
      rw [← HP.out, List.length_map]
      exact h4
    replace HX2 := Aside0.mk HX2
    have hc := HF.out.2.1 0 w1 (Below.refl _ _) hne
    have hn := HF.out.1 (ps[0]'hne) w1 (HF.out.2.2 0 _)
    have h4' : ((ps.length : Int) == 4) = false := beq_eq_false_iff_ne.2 (by omega)
    have h4'' : ((ps.length : Int) != 4) = true := by rw [bne, h4']; rfl
    generalize ps[0]'hne = p at *
    clear HX HF HP hlen h4
    have hnz : (0 : Int) < (ps.length : Int) := by omega
    go_wp2_with fail
    refine wp_loop_rounds 1 ?_
    rw [rounds_succ]
    cases hv : numP p.data.toList with
    | none =>
      rw [hv] at hn
      simp only [numV, Option.getD_none, Option.isSome_none] at hn
      clear hv
      go_wp2_with (go_at_call 81; refine hn.mono ?_; rintro e w2 ⟨rfl, hb2⟩)
      go_ret2
      rw [HX2.out]
      exact ⟨rfl, hb.trans (hb2.mono hb.size)⟩
    | some n =>
      have hn0 := (numP_some hv).1
      rw [hv] at hn
      simp only [numV, Option.getD_some, Option.isSome_some] at hn
      clear hv
      by_cases h255 : n > 255
      · go_wp2_with (go_at_call 81; refine hn.mono ?_; rintro e w2 ⟨rfl, hb2⟩)
        go_ret2
        rw [HX2.out]
        exact ⟨rfl, hb.trans (hb2.mono hb.size)⟩
      · go_wp2_with (go_at_call 81; refine hn.mono ?_; rintro e w2 ⟨rfl, hb2⟩)
        go_ret2
        rw [HX2.out]
        exact ⟨rfl, hb.trans (hb2.mono hb.size)⟩
end Go.Proofs.YtdndmbcejoodpaaGreatDoor
