/- The walk of conf.number: ten digits at most. -/
import Derived.Test.YtdndmbcejoodpaaGreatDoorCPure
import Derived.Test.YtdndmbcejoodpaaGreatDoorXShelf
import Derived.Test.YtdndmbcejoodpaaGreatDoorProg
import Derived.Test.YtdndmbcejoodpaaGreatDoorWWords
import Derived.Shelf.Strings.SlTrimAscii
import Derived.WalkKit
import Derived.Lib.ConvBytes
import Derived.WalkSpells
import Derived.Deep.QuietTactic
import Derived.BigQuiet
import Derived.Outline
namespace Go.Proofs.YtdndmbcejoodpaaGreatDoor
open Go.RowKit Go.Proofs.YtdndmbcejoodpaaGreatDoorW.PrintWords
set_option linter.unusedVariables false
def tenDigits : ByteArray := ⟨#[48, 49, 50, 51, 52, 53, 54, 55, 56, 57]⟩
theorem digs_contains (c : UInt8) : tenDigits.data.toList.contains c = isDig c := by
  have : ∀ a : Fin 256, tenDigits.data.toList.contains (UInt8.ofNat a.val) = isDig (UInt8.ofNat a.val) := by decide +kernel
  have h := this ⟨c.toNat, c.toNat_lt⟩
  simpa using h
theorem dropWhile_nil {α : Type} (p : α → Bool) : ∀ l : List α, l.dropWhile p = [] ↔ l.all p = true := by
  intro l
  induction l with
  | nil => simp
  | cons a r ih =>
    simp only [List.dropWhile_cons, List.all_cons, Bool.and_eq_true]
    split
    · rename_i h; rw [ih]; simp [h]
    · rename_i h; simp [h]
theorem trim_nil (l : List UInt8) : Lib.trimS l tenDigits.data.toList = [] ↔ l.all isDig = true := by
  have hp : (tenDigits.data.toList.contains ·) = isDig := by funext c; exact digs_contains c
  unfold Lib.trimS Lib.trimLeftS Lib.trimRightS
  rw [hp, dropWhile_nil, List.all_reverse]
  constructor
  · intro h
    rw [← dropWhile_nil] at h
    cases hq : l.all isDig with
    | true => rfl
    | false =>
      exfalso
      have h2 : l.reverse.dropWhile isDig ≠ [] := by
        rw [Ne, dropWhile_nil, List.all_reverse, hq]; simp
      match hd : l.reverse.dropWhile isDig, h2 with
      | a :: r, _ =>
        rw [hd, dropWhile_nil] at h
        have ha : isDig a = false := by
          have := List.head?_dropWhile_not isDig l.reverse
          rw [hd] at this
          simpa using this
        simp [ha] at h
  · intro h
    have : l.reverse.dropWhile isDig = [] := by rw [dropWhile_nil, List.all_reverse]; exact h
    rw [this]; rfl
theorem trim_calls (s : ByteArray) (w : World) (hs : s.size < 4294967281) :
    Calls Tryz.prog 139 #[.string s, .string ⟨#[48, 49, 50, 51, 52, 53, 54, 55, 56, 57]⟩] w fun e w' => e = .returned (.string ⟨(Lib.trimS s.data.toList tenDigits.data.toList).toArray⟩) ∧ Below w.heap.size w w' :=
  Any.strings_Trim_laid Tryz.lays160 (by kernel_rfl) s ⟨#[48, 49, 50, 51, 52, 53, 54, 55, 56, 57]⟩ w (by omega) (by decide) (ascii_of_all (by decide))
/-- Atoi at ten digits at most. -/
theorem parse_spell : ∀ (l : List UInt8) (acc : Nat), l.all isDig = true → (acc + 1) * 10 ^ l.length ≤ 10000000000 → Lib.parseUint10 acc l = .ok (spell (acc : Int) l).toNat := by
  intro l
  induction l with
  | nil => intro acc _ _; simp [Lib.parseUint10, spell]
  | cons c r ih =>
    intro acc hd hb
    simp only [List.all_cons, Bool.and_eq_true] at hd
    have hc := (isDig_iff c).1 hd.1
    simp only [List.length_cons] at hb
    have h1 : 1 ≤ 10 ^ r.length := Nat.one_le_pow _ _ (by decide)
    have h2 : (acc + 1) * 10 ^ (r.length + 1) = ((acc + 1) * 10) * 10 ^ r.length := by rw [Nat.pow_succ', Nat.mul_assoc]
    have h3 : (acc + 1) * 10 ≤ ((acc + 1) * 10) * 10 ^ r.length := Nat.le_mul_of_pos_right _ h1
    have h4 : (acc * 10 + (c.toNat - 48) + 1) * 10 ^ r.length ≤ ((acc + 1) * 10) * 10 ^ r.length := Nat.mul_le_mul_right _ (by omega)
    have h5 : (acc * 10 + (c.toNat - 48) + 1) ≤ (acc * 10 + (c.toNat - 48) + 1) * 10 ^ r.length := Nat.le_mul_of_pos_right _ h1
    rw [Lib.parseUint10, if_pos hc, if_neg (by omega), if_neg (by omega), ih _ hd.2 (by omega)]
    simp only [spell]
    rw [show ((acc * 10 + (c.toNat - 48) : Nat) : Int) = (acc : Int) * 10 + ((c.toNat : Int) - 48) by omega]
theorem atoi_spell (l : List UInt8) (hd : l.all isDig = true) (h1 : 1 ≤ l.length) (h2 : l.length ≤ 10) : Lib.atoiAll l = .ok (spell 0 l) := by
  match l, h1 with
  | c :: r, _ =>
    have hd0 := hd
    simp only [List.all_cons, Bool.and_eq_true] at hd0
    have hc := (isDig_iff c).1 hd0.1
    have hp : (0 + 1) * 10 ^ (c :: r).length ≤ 10000000000 := by
      have := Nat.pow_le_pow_right (by decide : 0 < 10) h2
      have e : 10 ^ 10 = 10000000000 := by decide
      omega
    have hn := spell_nonneg (c :: r) 0 (by decide) hd
    have hlt := spell_lt (c :: r) 0 (by decide) hd
    have hlt' : spell 0 (c :: r) < 10000000000 := by
      have h3 : (10 : Int) ^ (c :: r).length ≤ 10 ^ 10 := by
        have := Nat.pow_le_pow_right (by decide : 0 < 10) h2
        exact_mod_cast this
      have : (10 : Int) ^ 10 = 10000000000 := by decide
      omega
    unfold Lib.atoiAll
    dsimp only
    rw [if_neg (by omega : ¬ (c.toNat = 43 ∨ c.toNat = 45))]
    unfold Lib.parseMag
    rw [if_neg (by simp), parse_spell _ 0 hd hp]
    dsimp only
    rw [if_neg (by rintro ⟨_, h⟩; have : ((0 : Nat) : Int) = 0 := rfl; rw [this] at h; omega), if_neg (by omega), if_neg (by omega)]
    congr 1
    have : ((0 : Nat) : Int) = 0 := rfl
    rw [this]
    omega
theorem run_eql_nils {P : Program} {t : TypeId} {ms : Array (String × TypeId)} (ht : P.underlying t = some (.interface ms)) (w : World) :
    (binOp .eql t .nilIface .nilIface).run P w = .ok (.bool true) w := by
  have h : ∀ d : Nat, (Op.equalIn (d + 1) t .nilIface .nilIface).run P w = .ok true w := fun d => by
    simp [Op.equalIn, run_underlying ht]
  simp only [binOp]
  simp [Op.equal, Op.maxDepth, h 9999]
def numV (o : Option Int) : Value := .tuple #[.int .i64 (o.getD 0), .bool o.isSome]
theorem isNil_toList (l : List UInt8) (h : l ≠ []) : (ByteArray.toList ⟨l.toArray⟩).isEmpty = false := by
  rw [Lib.toList_data]
  cases l with
  | nil => exact absurd rfl h
  | cons a r => rfl
set_option maxRecDepth 100000 in
set_option maxHeartbeats 2000000 in
theorem number_calls (s : ByteArray) (w : World) (hs : s.size < 4294967281) :
    Calls Tryz.prog 81 #[.string s] w fun e w' => e = .returned (numV (numP s.data.toList)) ∧ Below w.heap.size w w' := by
  have hlen : s.data.toList.length = s.size := by rw [Array.length_toList]; rfl
  by_cases h0 : s.size = 0
  · have e : numP s.data.toList = none := by unfold numP; rw [if_pos (.inl (by omega))]
    rw [e]
    clear e hlen
    go_enter Tryz.func81, Tryz.ntmps81
    go_wp2_with fail
    go_ret2
    exact ⟨rfl, Below.refl _ _⟩
  · have hpos : 0 < s.size := by omega
    by_cases h10 : 10 < s.size
    · have e : numP s.data.toList = none := by unfold numP; rw [if_pos (.inr (.inl (by omega)))]
      rw [e]
      clear e hlen
      go_enter Tryz.func81, Tryz.ntmps81
      go_wp2_with fail
      go_ret2
      exact ⟨rfl, Below.refl _ _⟩
    · obtain ⟨l, rfl⟩ : ∃ l : List UInt8, s = ⟨l.toArray⟩ := ⟨s.data.toList, rfl⟩
      match l, hpos with
      | c :: r, _ =>
      have hi0 : ∀ W : World, (Instr.index 9 (.string ⟨(c :: r).toArray⟩) (.int .i64 0)).run Tryz.prog W = .ok (.int .u8 (c.toNat : Int)) W := fun W => by
        rw [run_index_string _ _ _ _ _ Tryz.underlying9, dif_pos (by simp [ByteArray.size])]
        rfl
      have hlen : (⟨(c :: r).toArray⟩ : ByteArray).size = r.length + 1 := by simp [ByteArray.size]
      have HT := fun W => trim_calls ⟨(c :: r).toArray⟩ W hs
      have HA := fun W v h => Tryz.strconv_Atoi_ok ⟨(c :: r).toArray⟩ (by omega) v h W
      have HB := Below.refl w.heap.size w
      rw [show (⟨(c :: r).toArray⟩ : ByteArray).data.toList = c :: r from rfl] at HT HA ⊢
      obtain ⟨z, hz⟩ : ∃ z : Int, z = (c.toNat : Int) := ⟨_, rfl⟩
      rw [← hz] at hi0
      have hcz : c = 48 ↔ z = 48 := by
        constructor
        · intro e; rw [hz, e]; rfl
        · intro e; apply UInt8.toNat_inj.1; rw [e] at hz; simp; omega
      have HZ := Aside0.mk hcz
      clear hz hcz
      generalize hS : (⟨(c :: r).toArray⟩ : ByteArray) = s at *
      by_cases hlead : z = 48 ∧ 1 < s.size
      · obtain ⟨h48, h1⟩ := hlead
        have e : numP (c :: r) = none := by unfold numP; rw [if_pos (.inr (.inr (.inl ⟨by simp [HZ.out.2 h48], by simp only [List.length_cons]; omega⟩)))]
        rw [e]
        clear e HT HA HZ
        subst h48
        go_enter Tryz.func81, Tryz.ntmps81
        go_wp2_with fail
        go_ret2
        exact ⟨rfl, Below.refl _ _⟩
      · cases hd : (c :: r).all isDig with
        | false =>
          have e : numP (c :: r) = none := by unfold numP; rw [if_pos (.inr (.inr (.inr hd)))]
          rw [e]
          have hne : (ByteArray.toList ⟨(Lib.trimS (c :: r) tenDigits.data.toList).toArray⟩).isEmpty = false := isNil_toList _ (fun h => by rw [trim_nil, hd] at h; cases h)
          have hne2 : (!(ByteArray.toList ⟨(Lib.trimS (c :: r) tenDigits.data.toList).toArray⟩).isEmpty) = true := by rw [hne]; rfl
          generalize (⟨(Lib.trimS (c :: r) tenDigits.data.toList).toArray⟩ : ByteArray) = t at *
          clear e HA HZ hd
          by_cases hz : z = 48
          · subst hz
            have h1 : ¬ 1 < s.size := fun h => hlead ⟨rfl, h⟩
            clear hlead
            go_enter Tryz.func81, Tryz.ntmps81
            go_wp2_with (go_at_call 139; refine (HT _).mono ?_; rintro e w' ⟨rfl, hb⟩)
            go_ret2
            exact ⟨rfl, hb⟩
          · clear hlead
            go_enter Tryz.func81, Tryz.ntmps81
            go_wp2_with (go_at_call 139; refine (HT _).mono ?_; rintro e w' ⟨rfl, hb⟩)
            go_ret2
            exact ⟨rfl, hb⟩
        | true =>
          have e : numP (c :: r) = some (spell 0 (c :: r)) := by
            unfold numP
            rw [if_neg]
            rintro (h | h | ⟨h, h'⟩ | h)
            · simp at h
            · simp only [List.length_cons] at h; omega
            · simp only [List.length_cons] at h'
              exact hlead ⟨HZ.out.1 (by simpa using h), by omega⟩
            · rw [hd] at h; cases h
          rw [e]
          have hv := atoi_spell (c :: r) hd (by simp) (by simp only [List.length_cons]; omega)
          have HA : ∀ W : World, Calls Tryz.prog 36 #[.string s] W fun e w' => e = .returned (.tuple #[.int .i64 (spell 0 (c :: r)), .nilIface]) ∧ Below W.heap.size W w' := fun W =>
            (HA W _ hv).mono fun e w' ⟨he, hw⟩ => ⟨he, by
              rcases hw with rfl | ⟨t, rfl⟩
              · exact Below.refl _ _
              · exact Lib.bytesWorld_below _ _ _⟩
          have hne : (ByteArray.toList ⟨(Lib.trimS (c :: r) tenDigits.data.toList).toArray⟩).isEmpty = true := by rw [(trim_nil _).2 hd, Lib.toList_data]; rfl
          have hne2 : (!(ByteArray.toList ⟨(Lib.trimS (c :: r) tenDigits.data.toList).toArray⟩).isEmpty) = false := by rw [hne]; rfl
          generalize (⟨(Lib.trimS (c :: r) tenDigits.data.toList).toArray⟩ : ByteArray) = t at *
          generalize spell 0 (c :: r) = v at *
          clear e HZ hd hv
          have b0 : ((r.length : Int) + 1 == 0) = false := beq_eq_false_iff_ne.2 (by omega)
          have b1 : decide (10 < (r.length : Int) + 1) = false := decide_eq_false (by omega)
          have qnn := fun W => run_eql_nils (P := Tryz.prog) Tryz.underlying61 W
          by_cases hz : z = 48
          · subst hz
            have h1 : ¬ 1 < s.size := fun h => hlead ⟨rfl, h⟩
            have b2 : decide (1 < (r.length : Int) + 1) = false := decide_eq_false (by omega)
            clear hlead
            go_enter Tryz.func81, Tryz.ntmps81
            go_wp2_with (first
              | (go_at_call 139; refine (HT _).mono ?_; rintro e w' ⟨rfl, hb⟩)
              | (go_at_call 36; refine (HA _).mono ?_; rintro e w2 ⟨rfl, hb2⟩))
            go_quiet (fail)
            go_wp2_with fail
            go_ret2
            exact ⟨rfl, pw_below_drewN (hb.trans (hb2.mono hb.size)) _⟩
          · clear hlead
            go_enter Tryz.func81, Tryz.ntmps81
            go_wp2_with (first
              | (go_at_call 139; refine (HT _).mono ?_; rintro e w' ⟨rfl, hb⟩)
              | (go_at_call 36; refine (HA _).mono ?_; rintro e w2 ⟨rfl, hb2⟩))
            go_quiet (fail)
            go_wp2_with fail
            go_ret2
            exact ⟨rfl, pw_below_drewN (hb.trans (hb2.mono hb.size)) _⟩
end Go.Proofs.YtdndmbcejoodpaaGreatDoor
