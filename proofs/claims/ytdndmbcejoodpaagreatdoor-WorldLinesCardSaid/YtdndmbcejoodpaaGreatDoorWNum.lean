/- strconv.Atoi at any text, and world.DecodeEvent's function literal. -/
import Derived.Test.YtdndmbcejoodpaaGreatDoorWEnc
import Derived.Lib.SmallJoins
namespace Go.Proofs.YtdndmbcejoodpaaGreatDoor
open Go.RowKit Go.Proofs.YtdndmbcejoodpaaGreatDoorW.PrintWords Go.Proofs.YtdndmbcejoodpaaGreatDoorW.PrintLast Go.Proofs.YtdndmbcejoodpaaGreatDoorW.PrintMore
set_option linter.unusedVariables false
set_option linter.unusedSimpArgs false
theorem form_kind {kind wait unit n : Int} {m : Nat} (h : formP kind wait unit n m = 0) : 1 ≤ kind ∧ kind ≤ 8 := by
  unfold formP at h
  split at h
  · rename_i hc
    have := hc.1
    simpa [fitsP] using this
  · cases h
set_option maxRecDepth 100000 in
set_option maxHeartbeats 1000000 in
theorem encode_calls (kind wait frm dst unit : Int) (A : Option Addr) (m c : Nat) (l : List Int) (n : Int) (w : World) (HE : EvOk w wait frm dst unit A m c l n) :
    Calls Tryz.prog 10 #[evV kind wait frm dst unit A m c n] w fun e w' => e = .returned (.tuple #[.string (ba (encP kind wait frm dst unit l n).1), .int .i64 (encP kind wait frm dst unit l n).2]) ∧ Below w.heap.size w w' := by
  have hm : l.length = m := HE.reads.1
  by_cases hf : formP kind wait unit n m = 0
  · have e : encP kind wait frm dst unit l n = (encL kind wait frm dst unit l n, 0) := by unfold encP; rw [hm, if_pos hf]
    rw [e]
    have hk := form_kind hf
    have hk8 : kind = 1 ∨ kind = 2 ∨ kind = 3 ∨ kind = 4 ∨ kind = 5 ∨ kind = 6 ∨ kind = 7 ∨ kind = 8 := by omega
    rcases hk8 with rfl | rfl | rfl | rfl | rfl | rfl | rfl | rfl
    · exact enc1 wait frm dst unit A m c l n w HE hf
    · exact enc2 wait frm dst unit A m c l n w HE hf
    · exact enc3 wait frm dst unit A m c l n w HE hf
    · exact enc4 wait frm dst unit A m c l n w HE hf
    · exact enc5 wait frm dst unit A m c l n w HE hf
    · exact enc6 wait frm dst unit A m c l n w HE hf
    · exact enc7 wait frm dst unit A m c l n w HE hf
    · exact enc8 wait frm dst unit A m c l n w HE hf
  · have e : encP kind wait frm dst unit l n = ([], formP kind wait unit n m) := by unfold encP; rw [hm, if_neg hf]
    rw [e]
    have hform := fun W => formed_calls kind wait frm dst unit A m c n W
    generalize formP kind wait unit n m = z at *
    have hz : (z == 0) = false := beq_eq_false_iff_ne.2 hf
    clear e hm HE hf
    unfold evV at hform ⊢
    go_enter Tryz.func10, Tryz.ntmps10
    go_wp2_with ((with_reducible refine (hform _).mono ?_); rintro e w1 ⟨rfl, hb1⟩)
    go_ret2
    exact ⟨rfl, (below_alloc (Below.refl _ _) _).trans (hb1.mono (by simp))⟩
def hexD : List UInt8 := [48, 49, 50, 51, 52, 53, 54, 55, 56, 57, 97, 98, 99, 100, 101, 102]
def hexI (b : UInt8) : Int := Lib.indexByte hexD b
def hexB (x y : Int) : Int := Go.bits .or .i64 (wrap64 (x * 16)) y % 256
/-- What digits tell, behind what has been read. -/
def bytesP : List UInt8 → List Int → List Int
  | a :: b :: r, acc => bytesP r (acc ++ [hexB (hexI a) (hexI b)])
  | _, acc => acc
theorem hexI_range (a : UInt8) : -1 ≤ hexI a ∧ hexI a < 16 := by
  have : ∀ a : Fin 256, -1 ≤ hexI (UInt8.ofNat a.val) ∧ hexI (UInt8.ofNat a.val) < 16 := by decide +kernel
  have h := this ⟨a.toNat, a.toNat_lt⟩
  simpa using h
theorem idx_calls (a : UInt8) (w : World) : Calls Tryz.prog 82 #[.string ⟨#[48, 49, 50, 51, 52, 53, 54, 55, 56, 57, 97, 98, 99, 100, 101, 102]⟩, .int .u8 (a.toNat : Int)] w fun e w' => e = .returned (.int .i64 (hexI a)) ∧ w' = w := by
  have h := Tryz.strings_IndexByte ⟨#[48, 49, 50, 51, 52, 53, 54, 55, 56, 57, 97, 98, 99, 100, 101, 102]⟩ (a.toNat : Int) w
  have e : ((a.toNat : Int).toNat.toUInt8) = a := by simp
  rw [e] at h
  exact h
set_option maxRecDepth 100000 in
set_option maxHeartbeats 1000000 in
theorem bytes_calls (s : List UInt8) (w : World) (hs : s.length ≤ 4294967296) :
    Calls Tryz.prog 38 #[.string (ba s)] w fun e w' => ∃ v, e = .returned v ∧ w'.ownsRow w.heap.size 5 1 v (bytesP s []).length (nums .u8 (bytesP s [])) ∧ Below w.heap.size w w' := by
  have HSL := Aside0.mk hs
  clear hs
  unfold ba
  go_enter Tryz.func38, Tryz.ntmps38
  go_wp2_with fail
  go_loopw [0, 3] (fun v0 v3 wr => ∃ (l : List UInt8) (acc : List Int), Aside0 (bytesP s [] = bytesP l acc) ∧ Aside0 (l.length + acc.length ≤ s.length) ∧ v0 = .string ⟨l.toArray⟩ ∧ Aside0 (wr.ownsRow w.heap.size 5 1 v3 acc.length (nums .u8 acc)) ∧ Below w.heap.size w wr) (fun v0 _ _ => match v0 with | .string b => b.size | _ => 0)
  case atStart => exact ⟨s, [], ⟨rfl⟩, ⟨by simp⟩, rfl, ⟨own_nil _ _ _ _⟩, Below.refl _ _⟩
  case round =>
    obtain ⟨l, acc, HE, HL, rfl, HO, hB⟩ := hrel
    rcases l with _ | ⟨a, _ | ⟨b, r⟩⟩
    · go_wp2_with fail
      go_ret
      have ho := HO.out
      rw [HE.out]
      exact ⟨u3, rfl, ho, hB⟩
    · go_wp2_with fail
      go_ret
      have ho := HO.out
      rw [HE.out]
      exact ⟨u3, rfl, ho, hB⟩
    · have hi0 : ∀ W : World, (Instr.index 9 (.string ⟨(a :: b :: r).toArray⟩) (.int .i64 0)).run Tryz.prog W = .ok (.int .u8 (a.toNat : Int)) W := fun W => by
        rw [run_index_string _ _ _ _ _ Tryz.underlying9, dif_pos (by simp [ByteArray.size]; omega)]
        rfl
      have hi1 : ∀ W : World, (Instr.index 9 (.string ⟨(a :: b :: r).toArray⟩) (.int .i64 1)).run Tryz.prog W = .ok (.int .u8 (b.toNat : Int)) W := fun W => by
        rw [run_index_string _ _ _ _ _ Tryz.underlying9, dif_pos (by simp [ByteArray.size]; omega)]
        rfl
      have ca : ∀ x : InD (fun w' => ∃ n, w' = wr.drewN n), Calls Tryz.prog 82 #[.string ⟨#[48, 49, 50, 51, 52, 53, 54, 55, 56, 57, 97, 98, 99, 100, 101, 102]⟩, .int .u8 (a.toNat : Int)] x.val fun e w'' => e = .returned (.int .i64 (hexI a)) ∧ ∃ y : InD (fun w' => ∃ n, w' = wr.drewN n), w'' = y.val :=
        fun x => calls_in ((idx_calls a x.val).mono fun _ _ ⟨he, hw⟩ => ⟨he, by rw [hw]; exact x.ok⟩)
      have cb : ∀ x : InD (fun w' => ∃ n, w' = wr.drewN n), Calls Tryz.prog 82 #[.string ⟨#[48, 49, 50, 51, 52, 53, 54, 55, 56, 57, 97, 98, 99, 100, 101, 102]⟩, .int .u8 (b.toNat : Int)] x.val fun e w'' => e = .returned (.int .i64 (hexI b)) ∧ ∃ y : InD (fun w' => ∃ n, w' = wr.drewN n), w'' = y.val :=
        fun x => calls_in ((idx_calls b x.val).mono fun _ _ ⟨he, hw⟩ => ⟨he, by rw [hw]; exact x.ok⟩)
      have hra := hexI_range a
      have hrb := hexI_range b
      obtain ⟨x, hx⟩ : ∃ x, x = hexI a := ⟨_, rfl⟩
      obtain ⟨y, hy⟩ : ∃ y, y = hexI b := ⟨_, rfl⟩
      rw [← hx] at ca hra
      rw [← hy] at cb hrb
      obtain ⟨za, hza⟩ : ∃ z : Int, z = (a.toNat : Int) := ⟨_, rfl⟩
      obtain ⟨zb, hzb⟩ : ∃ z : Int, z = (b.toNat : Int) := ⟨_, rfl⟩
      rw [← hza] at hi0 ca
      rw [← hzb] at hi1 cb
      have HX := Aside0.mk (And.intro hx hy)
      have HRA := Aside0.mk (And.intro hra hrb)
      clear hx hy hra hrb hza hzb
      have hsz : 1 < (⟨(a :: b :: r).toArray⟩ : ByteArray).size := by simp [ByteArray.size]
      go_wp2_with fail
      haveI : Nonempty (InD (fun w' => ∃ n, w' = wr.drewN n)) := ⟨⟨wr.drew, 1, rfl⟩⟩
      refine wp_region_move_tail (v := u3) (.tmp 3) (fun w' => ∃ n, w' = wr.drewN n) 10 rfl rfl (by kernel_rfl) (by kernel_rfl) ⟨1, rfl⟩ (fun _ _ _ h => h) rfl ?_
      simp only [List.take, List.drop, Act.put, List.setIfInBounds_toArray, List.set_cons_succ, List.set_cons_zero, Nat.reduceSub]
      repeat (go_big_quiet_step (first | with_reducible exact ca _ | with_reducible exact cb _))
      refine wpQuiet_nil ?_
      clear ca cb
      intro x5
      obtain ⟨nd, hnd⟩ := x5.ok
      rw [hnd]
      clear hnd x5 this hi0 hi1
      have hB' : Below w.heap.size w (wr.drewN nd) := pw_below_drewN hB nd
      have hlen : (acc.length + 1) * 1 ≤ 140737488355328 := by have := HL.out; have := HSL.out; simp only [List.length_cons] at *; omega
      go_wp2_with (refine gate_builtin (b := .append) rfl ?_; go_must ((refine print_append_num (w0 := w) w.heap.size rfl (.tmp 9) (.tmp 19) 23 5 .u8 1 rfl Tryz.underlying23 u8_info (by decide) u3 acc (hexB x y) rfl rfl HO.out hB' hB'.size hlen ?_; intro v1 w3 hown hb3 hg hat)))
      go_roundw
      case measure => simp [ByteArray.size]; omega
      case rel =>
        refine ⟨r, acc ++ [hexB x y], ⟨?_⟩, ⟨?_⟩, ?_, ⟨hown⟩, hb3⟩
        · rw [HE.out, bytesP, ← HX.out.1, ← HX.out.2]
        · have := HL.out
          simp only [List.length_cons, List.length_append, List.length_nil] at *
          omega
        · refine congrArg Value.string ?_
          apply ByteArray.ext
          rw [ByteArray.data_extract]
          simp
end Go.Proofs.YtdndmbcejoodpaaGreatDoor
namespace Go.Proofs.YtdndmbcejoodpaaGreatDoor
open Go.RowKit Go.Proofs.YtdndmbcejoodpaaGreatDoorW.PrintWords Go.Proofs.YtdndmbcejoodpaaGreatDoorW.PrintLast Go.Proofs.YtdndmbcejoodpaaGreatDoorW.PrintMore
set_option linter.unusedVariables false
set_option linter.unusedSimpArgs false
/-- The library's variables, with the two errors of strconv. -/
structure LaidE (w : World) : Prop where
  laid : Laid w
  syn : ∃ tp p, w.var? Tryz.prog "strconv.ErrSyntax" = some #[.iface tp p]
  ran : ∃ tp p, w.var? Tryz.prog "strconv.ErrRange" = some #[.iface tp p]
theorem syn_named : Tryz.prog.globalNamed "strconv.ErrSyntax" = some 1 := by kernel_rfl
theorem ran_named : Tryz.prog.globalNamed "strconv.ErrRange" = some 2 := by kernel_rfl
theorem LaidE.below {B : Nat} {w w' : World} (h : LaidE w) (hb : Below B w w') (hB : w.heap.size ≤ B) : LaidE w' := by
  obtain ⟨t1, p1, h1⟩ := h.syn
  obtain ⟨t2, p2, h2⟩ := h.ran
  exact ⟨h.laid.below hb hB, ⟨t1, p1, Go.Joins.var_stays syn_named h1 hb hB⟩, ⟨t2, p2, Go.Joins.var_stays ran_named h2 hb hB⟩⟩
theorem LaidE.on {w w' : World} (h : LaidE w) (hb : Below w.heap.size w w') : LaidE w' := h.below hb (Nat.le_refl _)
/-- What a text says as a number: what Atoi hands back beside its error. -/
def atoiP (s : List UInt8) : Int := match Lib.atoiAll s with
  | .ok v => v
  | .range => Lib.atoiSat s
  | _ => 0
theorem atoi_calls (s : List UInt8) (w : World) (hs : s.length ≤ 4294967296) (HL : LaidE w) :
    Calls Tryz.prog 36 #[.string (ba s)] w fun e w' => (∃ x, e = .returned (.tuple #[.int .i64 (atoiP s), x])) ∧ Below w.heap.size w w' := by
  have hsz : (ba s).size = s.length := by simp [ba, ByteArray.size]
  have hd : (ba s).data.toList = s := by simp [ba]
  obtain ⟨t1, p1, h1⟩ := HL.syn
  obtain ⟨t2, p2, h2⟩ := HL.ran
  cases h : Lib.atoiAll s with
  | ok v =>
    refine (Tryz.strconv_Atoi_ok (ba s) (by omega) v (by rw [hd]; exact h) w).mono ?_
    rintro e w' ⟨rfl, hw⟩
    refine ⟨⟨_, by unfold atoiP; rw [h]⟩, ?_⟩
    rcases hw with rfl | ⟨t, rfl⟩
    · exact Below.refl _ _
    · exact Lib.bytesWorld_below _ _ _
  | range =>
    refine (Any.strconv_Atoi_range_var Tryz.laysC172 (ba s) (by omega) (by rw [hd]; exact h) t2 p2 w h2).mono ?_
    rintro e w' ⟨N, rfl, -, -, hb⟩
    refine ⟨⟨_, by unfold atoiP; rw [h, hd]⟩, hb⟩
  | _ =>
    refine (Any.strconv_Atoi_syntax_var Tryz.laysC172 (ba s) (by omega) (by rw [hd]; exact h) t1 p1 w h1).mono ?_
    rintro e w' ⟨N, rfl, -, -, hb⟩
    refine ⟨⟨_, by unfold atoiP; rw [h]⟩, hb⟩
set_option maxRecDepth 100000 in
set_option maxHeartbeats 1000000 in
theorem lit_calls (B R m c i : Nat) (s : List UInt8) (w : World) (hs : s.length ≤ 4294967296) (HL : LaidE w) (hb : w.cell? ⟨B, 0, none⟩ = some (.slice (some ⟨R, 0, none⟩) m c)) (hi : i < m) (hr : w.cell? ⟨R, i, none⟩ = some (.string (ba s))) :
    Calls Tryz.prog 35 #[.int .i64 i, .pointer (some ⟨B, 0, none⟩)] w fun e w' => e = .returned (.int .i64 (atoiP s)) ∧ Below w.heap.size w w' := by
  have hat := fun W (h : LaidE W) => atoi_calls s W hs h
  clear hs
  go_enter Tryz.func35, Tryz.ntmps35
  go_wp2_with ((with_reducible refine (hat _ HL).mono ?_); rintro e w1 ⟨⟨x, rfl⟩, hb1⟩)
  go_ret
  exact ⟨rfl, hb1⟩
end Go.Proofs.YtdndmbcejoodpaaGreatDoor
