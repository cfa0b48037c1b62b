/- The walk of world.DecodeEvent. -/
import Derived.Test.YtdndmbcejoodpaaGreatDoorWNum
import Derived.Lib.AppendZerosOnto
namespace Go.Proofs.YtdndmbcejoodpaaGreatDoor
open Go.RowKit Go.Proofs.YtdndmbcejoodpaaGreatDoorW.PrintWords Go.Proofs.YtdndmbcejoodpaaGreatDoorW.PrintLast Go.Proofs.YtdndmbcejoodpaaGreatDoorW.PrintMore
set_option linter.unusedVariables false
set_option linter.unusedSimpArgs false
theorem C_of_own {w : World} {B m c : Nat} {A : Option Addr} {l : List Int} (h : w.ownsRow B 5 1 (.slice A m c) l.length (nums .u8 l)) : m = l.length ∧ Kd.C (Kd.int .u8) w A l.length l := by
  obtain ⟨A', c', he, hr⟩ := own_reads_of (enc := fun x => .int .u8 x) (d := (0 : Int)) (xs := l) h
  obtain ⟨rfl, rfl, rfl⟩ : A = A' ∧ m = l.length ∧ c = c' := by simpa using he
  exact ⟨rfl, Kd.C_of_reads (h1 := fun _ => rfl) hr⟩
theorem str_zero : (Tryz.prog.info? 9).map (fun i => (i.zero, i.size, i.bytes)) = some (some (.string ⟨#[]⟩), 1, 16) := by kernel_rfl
/-- The pieces, and four empty ones. -/
def toks (s : List UInt8) : List (List UInt8) := splitP 32 [] s ++ [[], [], [], []]
theorem toks_len {s p : List UInt8} (h : p ∈ toks s) : p.length ≤ s.length := by
  unfold toks at h
  rcases List.mem_append.1 h with h | h
  · have := splitP_le 32 s [] p h
    simpa using this
  · have : p = [] := by simpa using h
    rw [this]
    exact Nat.zero_le _
theorem append4 (w : World) (R0 : Nat) (ps : List ByteArray) (hb : w.heap[R0]? = some (.cells (ps.map Value.string).toArray 9 (0, 0))) (hl : ps.length ≤ 4294967296) :
    ∃ (G : Nat) (X : Array Value), (∀ ty, (Builtin.append_ #[44, 3] ty #[.slice (some ⟨R0, 0, none⟩) ps.length ps.length, .int .i64 4]).run Tryz.prog w = .ok (.slice (some ⟨w.heap.size, 0, none⟩) (ps.length + 4) G) (w.drew.alloc (.cells X 9))) ∧
      (∀ (j : Nat) (p : List UInt8), (ps.map (fun b : ByteArray => b.data.toList) ++ [[], [], [], []])[j]? = some p → X[j]? = some (Value.string (ba p))) := by
  obtain ⟨i, hi, hz⟩ := Option.map_eq_some_iff.1 str_zero
  obtain ⟨hz, hs1, hbt⟩ : i.zero = some (Value.string ⟨#[]⟩) ∧ i.size = 1 ∧ i.bytes = 16 := by simpa using hz
  have hold : (Builtin.firstCells i.size ps.length (.slice (some ⟨R0, 0, none⟩) ps.length ps.length)).run Tryz.prog w.drew = .ok (ps.map Value.string).toArray w.drew := by
    refine run_firstCells_some w.drew i.size ps.length ⟨R0, 0, none⟩ ps.length ps.length (ps.map Value.string) (by rw [hs1]; simp) (fun j v hj => ?_)
    have : (⟨R0, 0, none⟩ : Addr).add j = ⟨R0, j, none⟩ := by cases j <;> simp [Addr.add]
    rw [this]
    exact (blk_cell (w := w.drew) hb j).trans (by simpa using hj)
  have h := fun ty => Lib.run_append_grow_zeros w 44 3 ty 9 i _ .i64 .i64 Tryz.underlying44 Tryz.underlying3 hi hz (some ⟨R0, 0, none⟩) ps.length ps.length (ps.map Value.string) hold 4 (by decide) (by omega) (by omega) (by omega) (by rw [hbt]; decide)
    (growslice_fits (by omega) (by rw [hbt]; omega))
  refine ⟨_, _, h, fun j p hp => ?_⟩
  have hj : j < ps.length + 4 := by
    have := (List.getElem?_eq_some_iff.1 hp).1
    simpa using this
  have hz4 : Builtin.zeroCells (Value.string ⟨#[]⟩).cells 4 = #[Value.string ⟨#[]⟩, Value.string ⟨#[]⟩, Value.string ⟨#[]⟩, Value.string ⟨#[]⟩] := by kernel_rfl
  rw [hz4, Array.getElem?_append_left (by simp; omega)]
  rcases Nat.lt_or_ge j ps.length with h1 | h1
  · rw [Array.getElem?_append_left (by simpa using h1)]
    rw [List.getElem?_append_left (by simpa using h1)] at hp
    simp only [List.getElem?_map, Option.map_eq_some_iff] at hp
    obtain ⟨q, hq, rfl⟩ := hp
    simp [hq, ba]
  · rw [Array.getElem?_append_right (by simpa using h1)]
    rw [List.getElem?_append_right (by simpa using h1)] at hp
    simp only [List.size_toArray, List.length_map] at hp ⊢
    obtain ⟨d, hd⟩ : ∃ d, d = j - ps.length := ⟨_, rfl⟩
    rw [← hd] at hp ⊢
    have hd4 : d = 0 ∨ d = 1 ∨ d = 2 ∨ d = 3 := by omega
    rcases hd4 with rfl | rfl | rfl | rfl <;> (cases hp; rfl)
theorem wpList_append_run {P : Program} {ops : Array Oper} {rest : List Oper} {o : Oper} {a : Act} {w w' : World} {Q : Exit → Act → World → Prop} {v' : Value} (hgd : o.guard = none) (s x : Operand) (t tn : TypeId)
    (ho : o.op = .call { callee := .builtin .append, args := #[s, x], argTypes := #[t, tn] }) (v u : Value) (hs : a.eval s = v) (hx : a.eval x = u) (hr : ∀ ty, (Builtin.append_ #[t, tn] ty #[v, u]).run P w = .ok v' w')
    (h : wpList P ops Q rest (a.put o.dst v') w') : wpList P ops Q (o :: rest) a w := by
  refine wpList_plain hgd fun K hK => ?_
  unfold Oper.wp execOp
  simp only [ho, resolve, invoke, builtin, Sem.run_bind, Sem.run_pure, Result.andThen_ok, List.map_toArray, List.map_cons, List.map_nil, hs, hx, hr]
  exact hK _ _ h
theorem atoiP_range (s : List UInt8) : -9223372036854775808 ≤ atoiP s ∧ atoiP s ≤ 9223372036854775807 := by
  cases h : Lib.atoiAll s with
  | ok v => unfold atoiP; rw [h]; exact Lib.atoiAll_bounds h
  | range => unfold atoiP; rw [h]; simp only [Lib.atoiSat]; split <;> decide
  | _ =>
    unfold atoiP
    rw [h]
    show -9223372036854775808 ≤ (0 : Int) ∧ (0 : Int) ≤ 9223372036854775807
    decide
theorem addrP_range (s : List UInt8) : 0 ≤ (addrP s).1 ∧ (addrP s).1 < 4294967296 := by
  rcases addrP_cases s with h | ⟨x, h0, h1, h⟩
  · rw [h]; decide
  · rw [h]; exact ⟨h0, h1⟩
theorem bytesP_len : ∀ (l : List UInt8) (acc : List Int), (bytesP l acc).length ≤ acc.length + l.length
  | a :: b :: r, acc => by
    have := bytesP_len r (acc ++ [hexB (hexI a) (hexI b)])
    rw [bytesP]
    simp only [List.length_append, List.length_cons, List.length_nil] at this ⊢
    omega
  | [], acc => by rw [bytesP] <;> simp
  | [_], acc => by rw [bytesP] <;> simp
theorem bytesP_range : ∀ (l : List UInt8) (acc : List Int), (∀ b ∈ acc, 0 ≤ b ∧ b < 256) → ∀ b ∈ bytesP l acc, 0 ≤ b ∧ b < 256
  | a :: b :: r, acc => by
    intro h
    rw [bytesP]
    refine bytesP_range r _ (fun x hx => ?_)
    rcases List.mem_append.1 hx with hx | hx
    · exact h x hx
    · simp only [List.mem_singleton] at hx
      rw [hx]
      unfold hexB
      omega
  | [], acc => by intro h; rw [bytesP] <;> first | exact h | simp
  | [_], acc => by intro h; rw [bytesP] <;> first | exact h | simp
theorem bytesP_ok (l : List UInt8) : ∀ b ∈ bytesP l [], 0 ≤ b ∧ b < 256 := bytesP_range l [] (fun b h => absurd h (by simp))
def kindUpTo (t : List UInt8) : Nat → Int
  | 0 => 0
  | k + 1 => if wordP ((k : Int) + 1) = t then (k : Int) + 1 else kindUpTo t k
theorem kindUpTo_range (t : List UInt8) : ∀ k, 0 ≤ kindUpTo t k ∧ kindUpTo t k ≤ k := by
  intro k
  induction k with
  | zero => exact ⟨Int.le_refl _, Int.le_refl _⟩
  | succ k ih =>
    unfold kindUpTo
    split
    · omega
    · omega
/-- What the pieces of a line say: kind, wait, from, to, unit, data, n. -/
def decW (ws : List (List UInt8)) : Int × Int × Int × Int × Int × List Int × Int :=
  let k := kindUpTo (ws[0]?.getD []) 8
  let v := atoiP (ws[1]?.getD [])
  if k = 2 then (2, v, (addrP (ws[2]?.getD [])).1, (addrP (ws[3]?.getD [])).1, 0, bytesP (ws[4]?.getD []) [], 0)
  else if k = 3 then (3, v, 0, 0, atoiP (ws[2]?.getD []), bytesP (ws[3]?.getD []) [], 0)
  else if k = 4 then (4, v, 0, 0, atoiP (ws[2]?.getD []), [], atoiP (ws[3]?.getD []))
  else if k = 5 ∨ k = 6 ∨ k = 8 then (k, v, 0, 0, 0, [], atoiP (ws[2]?.getD []))
  else (k, v, 0, 0, 0, [], 0)
def decP (s : List UInt8) : Int × Int × Int × Int × Int × List Int × Int := decW (toks s)
/-- The event that DecodeEvent hands back, and its number. -/
def DecR (s : List UInt8) (e : Ending) (w' : World) : Prop :=
  match decP s with
  | (k, wait, frm, dst, unit, l, n) =>
    if encP k wait frm dst unit l n = (s, 0) then ∃ A m c, e = .returned (.tuple #[evV k wait frm dst unit A m c n, .int .i64 0]) ∧ Kd.C (Kd.int .u8) w' A m l ∧ m ≤ c
    else e = .returned (.tuple #[evV 0 0 0 0 0 none 0 0 0, .int .i64 220])
def put7 (w : World) (B : Nat) (v0 v1 v2 v3 v4 v5 v6 : Value) : World := (((((((w.setCell ⟨B, 0, none⟩ v0).setCell ⟨B, 1, none⟩ v1).setCell ⟨B, 2, none⟩ v2).setCell ⟨B, 3, none⟩ v3).setCell ⟨B, 4, none⟩ v4).setCell ⟨B, 5, none⟩ v5).setCell ⟨B, 6, none⟩ v6)
theorem put7_blk {w : World} {B T : Nat} {a0 a1 a2 a3 a4 a5 a6 : Value} (h : w.heap[B]? = some (.cells #[a0, a1, a2, a3, a4, a5, a6] T (0, 0))) (v0 v1 v2 v3 v4 v5 v6 : Value) : (put7 w B v0 v1 v2 v3 v4 v5 v6).heap[B]? = some (.cells #[v0, v1, v2, v3, v4, v5, v6] T (0, 0)) := by
  have h0 : (w.setCell ⟨B, 0, none⟩ v0).heap[B]? = some (.cells #[v0, a1, a2, a3, a4, a5, a6] T (0, 0)) := (blk_set h 0 v0).trans rfl
  have h1 := (blk_set h0 1 v1).trans (rfl : _ = some (Obj.cells #[v0, v1, a2, a3, a4, a5, a6] T (0, 0)))
  have h2 := (blk_set h1 2 v2).trans (rfl : _ = some (Obj.cells #[v0, v1, v2, a3, a4, a5, a6] T (0, 0)))
  have h3 := (blk_set h2 3 v3).trans (rfl : _ = some (Obj.cells #[v0, v1, v2, v3, a4, a5, a6] T (0, 0)))
  have h4 := (blk_set h3 4 v4).trans (rfl : _ = some (Obj.cells #[v0, v1, v2, v3, v4, a5, a6] T (0, 0)))
  have h5 := (blk_set h4 5 v5).trans (rfl : _ = some (Obj.cells #[v0, v1, v2, v3, v4, v5, a6] T (0, 0)))
  exact (blk_set h5 6 v6).trans rfl
theorem put7_below {w0 w : World} {C B : Nat} (h : Below C w0 w) (hB : C ≤ B) (v0 v1 v2 v3 v4 v5 v6 : Value) : Below C w0 (put7 w B v0 v1 v2 v3 v4 v5 v6) :=
  ((((((h.setCell (p := ⟨B, 0, none⟩) hB v0).setCell (p := ⟨B, 1, none⟩) hB v1).setCell (p := ⟨B, 2, none⟩) hB v2).setCell (p := ⟨B, 3, none⟩) hB v3).setCell (p := ⟨B, 4, none⟩) hB v4).setCell (p := ⟨B, 5, none⟩) hB v5).setCell (p := ⟨B, 6, none⟩) hB v6
theorem put7_own {w : World} {C B n : Nat} {e : TypeId} {v : Value} {xs : List Value} (h : w.ownsRow C e 1 v n xs) (hne : some B ≠ v.ownBlock) (v0 v1 v2 v3 v4 v5 v6 : Value) : (put7 w B v0 v1 v2 v3 v4 v5 v6).ownsRow C e 1 v n xs :=
  own_setCell (own_setCell (own_setCell (own_setCell (own_setCell (own_setCell (own_setCell h (p := ⟨B, 0, none⟩) hne v0) (p := ⟨B, 1, none⟩) hne v1) (p := ⟨B, 2, none⟩) hne v2) (p := ⟨B, 3, none⟩) hne v3) (p := ⟨B, 4, none⟩) hne v4) (p := ⟨B, 5, none⟩) hne v5) (p := ⟨B, 6, none⟩) hne v6
/-- What DecodeEvent holds while it reads. -/
structure DecW (B0 B4 R K m c : Nat) (ws : List (List UInt8)) (w0 w : World) : Prop where
  laid0 : LaidE w0
  b0 : w.heap[B0]? = some (.cells #[.int .i64 0, .int .i64 0, .int .u32 0, .int .u32 0, .int .i64 0, .slice none 0 0, .int .i64 0] 25 (0, 0))
  b4 : w.heap[B4]? = some (.cells #[.slice (some ⟨R, 0, none⟩) m c] 44 (0, 0))
  row : ∀ (j : Nat) (p : List UInt8), ws[j]? = some p → w.cell? ⟨R, j, none⟩ = some (.string (ba p))
  len : ws.length = m
  le0 : w0.heap.size ≤ K
  lt0 : B0 < K
  lt4 : B4 < K
  ltR : R < K
  below : Below w0.heap.size w0 w
theorem DecW.next {B0 B4 R K m c : Nat} {ws : List (List UInt8)} {w0 w w' : World} (h : DecW B0 B4 R K m c ws w0 w) (hb : Below w.heap.size w w') (hK : K < w.heap.size) : DecW B0 B4 R K m c ws w0 w' :=
  ⟨h.laid0, (hb.block _ (by have := h.lt0; omega)).trans h.b0, (hb.block _ (by have := h.lt4; omega)).trans h.b4, fun j p hp => cell_belowB (h.row j p hp) hb (by have := h.ltR; omega), h.len, h.le0, h.lt0, h.lt4, h.ltR, h.below.trans (hb.mono h.below.size)⟩
theorem DecW.put {B0 B4 R K m c : Nat} {ws : List (List UInt8)} {w0 w : World} (h : DecW B0 B4 R K m c ws w0 w) (j : Nat) (v : Value) : DecW B0 B4 R K m c ws w0 (w.setCell ⟨K, j, none⟩ v) :=
  ⟨h.laid0, blk_far h.b0 (p := ⟨K, j, none⟩) (by have := h.lt0; show B0 ≠ K; omega) v, blk_far h.b4 (p := ⟨K, j, none⟩) (by have := h.lt4; show B4 ≠ K; omega) v,
    fun i p hp => (World.cell?_setCell_far w ⟨K, j, none⟩ ⟨R, i, none⟩ v (by have := h.ltR; show K ≠ R; omega)).trans (h.row i p hp), h.len, h.le0, h.lt0, h.lt4, h.ltR, h.below.setCell (p := ⟨K, j, none⟩) h.le0 v⟩
theorem DecW.laid {B0 B4 R K m c : Nat} {ws : List (List UInt8)} {w0 w : World} (h : DecW B0 B4 R K m c ws w0 w) : LaidE w := h.laid0.on h.below
theorem DecW.c4 {B0 B4 R K m c : Nat} {ws : List (List UInt8)} {w0 w : World} (h : DecW B0 B4 R K m c ws w0 w) : w.cell? ⟨B4, 0, none⟩ = some (.slice (some ⟨R, 0, none⟩) m c) := (blk_cell h.b4 0).trans rfl
set_option maxRecDepth 100000 in
set_option maxHeartbeats 1000000 in
theorem decode_calls (s : List UInt8) (w : World) (hs : s.length ≤ 1048576) (HL : LaidE w) :
    Calls Tryz.prog 12 #[.string (ba s)] w fun e w' => Below w.heap.size w w' ∧ DecR s e w' := by
  have hsz : (ba s).size < 4294967281 := by simp [ba, ByteArray.size]; omega
  have hd : (ba s).data.toList = s := by simp [ba]
  have hsp := fun W (h : Laid W) => split_calls (ba s) 32 W h hsz
  rw [hd] at hsp
  have HLB : ∀ W, Below w.heap.size w W → Laid W := fun W hb => (HL.on hb).laid
  have HSZ := Aside0.mk hs
  have HLA := Aside0.mk HL
  clear hs hsz hd HL
  go_enter Tryz.func12, Tryz.ntmps12
  go_wp2_with (first | refine gate_builtin (b := .append) rfl ?_; go_must (refine wpList_append_run rfl (.tmp 11) (.const (.int .i64 4)) _ _ rfl _ _ rfl rfl hap ?_; clear hap) | (with_reducible refine (hsp _ (HLB _ (below_alloc (Below.refl _ _) _))).mono ?_); rintro e w1 ⟨ps, hps, hpl, rfl, hrow, hb1⟩; obtain ⟨G, X, hap, hX⟩ := append4 w1 _ ps hrow (by have := HSZ.out; simp [ba, ByteArray.size] at hpl; omega); rw [show (w.alloc (.cells #[.int .i64 0, .int .i64 0, .int .u32 0, .int .u32 0, .int .i64 0, .slice none 0 0, .int .i64 0] 25)).heap.size = w.heap.size + 1 by simp] at hap hrow)
  obtain ⟨ws, hws⟩ : ∃ ws, ws = toks s := ⟨_, rfl⟩
  obtain ⟨m, hm⟩ : ∃ m, m = ps.length + 4 := ⟨_, rfl⟩
  have hlen : ws.length = m := by rw [hws, toks, ← hps, hm]; simp
  have hm5 : 5 ≤ m := by
    have : ps.length ≠ 0 := fun h => splitP_ne 32 s [] (by rw [← hps]; exact List.eq_nil_of_length_eq_zero (by simpa using h))
    omega
  rw [← hm]
  have hX' : ∀ (j : Nat) (p : List UInt8), ws[j]? = some p → X[j]? = some (Value.string (ba p)) := by
    intro j p hp
    refine hX j p ?_
    rw [hps]
    rw [hws] at hp
    exact hp
  have hst : DecW w.heap.size (w1.heap.size + 1) w1.heap.size (w1.heap.size + 1 + 1) m G ws w ((((w1.alloc (.cells X 9)).alloc (.cells #[.slice (some ⟨w1.heap.size, 0, none⟩) m G] 44)).alloc (.cells #[.int .i64 0, .int .i64 0, .int .u32 0, .int .u32 0, .int .i64 0, .slice none 0 0, .int .i64 0] 25)).drew) := by
    have hbb : Below w1.heap.size w1 ((((w1.alloc (.cells X 9)).alloc (.cells #[.slice (some ⟨w1.heap.size, 0, none⟩) m G] 44)).alloc (.cells #[.int .i64 0, .int .i64 0, .int .u32 0, .int .u32 0, .int .i64 0, .slice none 0 0, .int .i64 0] 25)).drew) :=
      below_drew (below_alloc (below_alloc (below_alloc (Below.refl _ _) _) _) _)
    have hbw : Below w.heap.size w w1 := (below_alloc (Below.refl _ _) _).trans (hb1.mono (by simp))
    have hs1 : w.heap.size + 1 ≤ w1.heap.size := by have := hb1.size; simpa using this
    refine ⟨HLA.out, ?_, ?_, ?_, hlen, by have := hbw.size; omega, by omega, by omega, by omega, hbw.trans (hbb.mono hbw.size)⟩
    · exact (hbb.block _ (by omega)).trans ((hb1.block _ (by simp)).trans (heap_alloc_new w _))
    · show (((w1.alloc _).alloc _).alloc _).heap[w1.heap.size + 1]? = _
      rw [heap_alloc_old _ _ (by simp)]
      have := heap_alloc_new (w1.alloc (.cells X 9)) (.cells #[.slice (some ⟨w1.heap.size, 0, none⟩) m G] 44)
      simpa using this
    · intro j p hp
      show (((w1.alloc _).alloc _).alloc _).cell? _ = _
      rw [World.cell?_alloc_past _ _ _ (by simp; omega), World.cell?_alloc_past _ _ _ (by simp), World.cell?_alloc_at _ _ _ _ rfl]
      exact hX' j p hp
  have hk0 : ((((w1.alloc (.cells X 9)).alloc (.cells #[.slice (some ⟨w1.heap.size, 0, none⟩) m G] 44)).alloc (.cells #[.int .i64 0, .int .i64 0, .int .u32 0, .int .u32 0, .int .i64 0, .slice none 0 0, .int .i64 0] 25)).drew).heap[w1.heap.size + 1 + 1]? = some (.cells #[.int .i64 0, .int .i64 0, .int .u32 0, .int .u32 0, .int .i64 0, .slice none 0 0, .int .i64 0] 25 (0, 0)) := by
    have := heap_alloc_new ((w1.alloc (.cells X 9)).alloc (.cells #[.slice (some ⟨w1.heap.size, 0, none⟩) m G] 44)) (.cells #[.int .i64 0, .int .i64 0, .int .u32 0, .int .u32 0, .int .i64 0, .slice none 0 0, .int .i64 0] 25)
    show (((w1.alloc _).alloc _).alloc _).heap[w1.heap.size + 1 + 1]? = _
    simpa using this
  have HWS := Aside0.mk hws
  have HM := Aside0.mk hm
  clear hm hX' hX hlen hws hps hpl hrow hb1 hsp HLB
  obtain ⟨t, ht⟩ : ∃ t, ws[0]? = some t := ⟨_, List.getElem?_eq_getElem (by rw [hst.len]; omega)⟩
  go_loopw [14] (fun v14 wr => ∃ k : Nat, k ≤ 8 ∧ v14 = .int .i64 k ∧ DecW w.heap.size (w1.heap.size + 1) w1.heap.size (w1.heap.size + 1 + 1) m G ws w wr ∧ wr.heap[w1.heap.size + 1 + 1]? = some (.cells #[.int .i64 (kindUpTo t k), .int .i64 0, .int .u32 0, .int .u32 0, .int .i64 0, .slice none 0 0, .int .i64 0] 25 (0, 0))) (fun v14 _ => 8 - (RowKit.intOf v14).toNat)
  case atStart => exact ⟨0, by omega, rfl, hst, hk0⟩
  case round =>
    clear hst hk0
    obtain ⟨k, hk, rfl, HD, HK⟩ := hrel
    generalize w1.heap.size = R at *
    clear w1
    by_cases hlt : k < 8
    · have hltz : (k : Int) < 8 := by omega
      have hw : ∀ W, Calls Tryz.prog 25 #[.int .i64 ((k : Int) + 1)] W fun e w' => e = .returned (.string (ba (wordP ((k : Int) + 1)))) ∧ ∃ q, w' = W.drewN q := fun W => (word_calls ((k : Int) + 1) W (by omega) (by omega)).mono fun _ _ ⟨he, hw⟩ => ⟨he, 0, hw⟩
      have hwr : wrap64 ((k : Int) + 1) = (k : Int) + 1 := by unfold wrap64; omega
      have c4 := HD.c4
      have r0 := HD.row 0 t ht
      have k0 := (blk_cell HK 0).trans rfl
      have kf := blk_frozen HK 0
      have hmz : (0 : Int) < (m : Int) := by omega
      have HDA := Aside0.mk HD
      have HKA := Aside0.mk HK
      have HT := Aside0.mk ht
      clear HD HK ht
      obtain ⟨Y, hY⟩ : ∃ Y, Y = wordP ((k : Int) + 1) := ⟨_, rfl⟩
      rw [← hY] at hw
      by_cases hq : Y = t
      · have hKN : kindUpTo t (k + 1) = (k : Int) + 1 := by rw [kindUpTo, if_pos (by rw [← hY]; exact hq)]
        have HKN := Aside0.mk hKN
        clear hKN hY
        subst hq
        go_wp2_with fail
        refine wp_region_quiet_lit (by kernel_rfl) (by kernel_rfl) ?_
        repeat (go_big_quiet_step (exact Calls.quiet_of (hw _)))
        refine wpQuiet_nil ?_
        intro w5 hw5
        obtain ⟨nd, rfl⟩ := hw5
        have kf' : (wr.drewN nd).frozen? ⟨R + 1 + 1, 0, none⟩ = false := kf
        have k0' : (wr.drewN nd).cell? ⟨R + 1 + 1, 0, none⟩ = some (.int .i64 (kindUpTo Y k)) := k0
        clear kf k0 c4 r0 hw
        go_wp2_with fail
        go_roundw
        case measure => simp [RowKit.intOf]; omega
        case rel =>
          have hb2 : Below wr.heap.size wr (wr.drewN nd) := pw_below_drewN (Below.refl _ _) nd
          have hK := blk_lt HKA.out
          refine ⟨k + 1, by omega, by go_num, (HDA.out.next hb2 hK).put 0 _, ?_⟩
          rw [blk_set (w := wr.drewN nd) HKA.out 0 _, HKN.out]
          rfl
      · have hKN : kindUpTo t (k + 1) = kindUpTo t k := by rw [kindUpTo, if_neg (by rw [← hY]; exact hq)]
        have HKN := Aside0.mk hKN
        have hne : ((ba Y).toList == (ba t).toList) = false := by simp only [ba, ByteArray.toList_mk]; exact beq_eq_false_iff_ne.2 hq
        clear hKN hY hq
        go_wp2_with fail
        refine wp_region_quiet_lit (by kernel_rfl) (by kernel_rfl) ?_
        repeat (go_big_quiet_step (exact Calls.quiet_of (hw _)))
        refine wpQuiet_nil ?_
        intro w5 hw5
        obtain ⟨nd, rfl⟩ := hw5
        clear kf k0 c4 r0 hw
        go_wp2_with fail
        go_roundw
        case measure => simp [RowKit.intOf]; omega
        case rel =>
          have hb2 : Below wr.heap.size wr (wr.drewN nd) := pw_below_drewN (Below.refl _ _) nd
          have hK := blk_lt HKA.out
          refine ⟨k + 1, by omega, by go_num, HDA.out.next hb2 hK, ?_⟩
          rw [HKN.out]
          exact HKA.out
    · obtain rfl : k = 8 := by omega
      have hlit : ∀ (i : Nat) (p : List UInt8), ws[i]? = some p → ∀ W, DecW w.heap.size (R + 1) R (R + 1 + 1) m G ws w W → Calls Tryz.prog 35 #[.int .i64 i, .pointer (some ⟨R + 1, 0, none⟩)] W fun e w' => e = .returned (.int .i64 (atoiP p)) ∧ Below W.heap.size W w' :=
        fun i p hp W hD => lit_calls (R + 1) R m G i p W (by have := toks_len (HWS.out ▸ List.mem_of_getElem? hp); have := HSZ.out; omega) hD.laid hD.c4 (by have := hD.len; have := (List.getElem?_eq_some_iff.1 hp).1; omega) (hD.row i p hp)
      obtain ⟨p1, hp1⟩ : ∃ p, ws[1]? = some p := ⟨_, List.getElem?_eq_getElem (by rw [HD.len]; omega)⟩
      obtain ⟨p2, hp2⟩ : ∃ p, ws[2]? = some p := ⟨_, List.getElem?_eq_getElem (by rw [HD.len]; omega)⟩
      obtain ⟨p3, hp3⟩ : ∃ p, ws[3]? = some p := ⟨_, List.getElem?_eq_getElem (by rw [HD.len]; omega)⟩
      obtain ⟨p4, hp4⟩ : ∃ p, ws[4]? = some p := ⟨_, List.getElem?_eq_getElem (by rw [HD.len]; omega)⟩
      have hl1 : ∀ W, DecW w.heap.size (R + 1) R (R + 1 + 1) m G ws w W → Calls Tryz.prog 35 #[.int .i64 1, .pointer (some ⟨R + 1, 0, none⟩)] W fun e w' => e = .returned (.int .i64 (atoiP p1)) ∧ Below W.heap.size W w' := hlit 1 p1 hp1
      have hl2 : ∀ W, DecW w.heap.size (R + 1) R (R + 1 + 1) m G ws w W → Calls Tryz.prog 35 #[.int .i64 2, .pointer (some ⟨R + 1, 0, none⟩)] W fun e w' => e = .returned (.int .i64 (atoiP p2)) ∧ Below W.heap.size W w' := hlit 2 p2 hp2
      have hl3 : ∀ W, DecW w.heap.size (R + 1) R (R + 1 + 1) m G ws w W → Calls Tryz.prog 35 #[.int .i64 3, .pointer (some ⟨R + 1, 0, none⟩)] W fun e w' => e = .returned (.int .i64 (atoiP p3)) ∧ Below W.heap.size W w' := hlit 3 p3 hp3
      have hs2 : p2.length ≤ 1048576 := Nat.le_trans (toks_len (HWS.out ▸ List.mem_of_getElem? hp2)) HSZ.out
      have hs3 : p3.length ≤ 1048576 := Nat.le_trans (toks_len (HWS.out ▸ List.mem_of_getElem? hp3)) HSZ.out
      have hs4 : p4.length ≤ 1048576 := Nat.le_trans (toks_len (HWS.out ▸ List.mem_of_getElem? hp4)) HSZ.out
      have ha2 : ∀ W, DecW w.heap.size (R + 1) R (R + 1 + 1) m G ws w W → Calls Tryz.prog 37 #[.string (ba p2)] W fun e w' => (∃ x, e = .returned (.tuple #[.int .u32 (addrP p2).1, .int .i64 x])) ∧ Below W.heap.size W w' := fun W hD => (addr_calls (ba p2) W hD.laid.laid (by simp [ba, ByteArray.size]; omega)).mono fun _ _ ⟨he, hb⟩ => ⟨⟨(addrP p2).2, by rw [he]; simp [addrV, ba]⟩, hb⟩
      have ha3 : ∀ W, DecW w.heap.size (R + 1) R (R + 1 + 1) m G ws w W → Calls Tryz.prog 37 #[.string (ba p3)] W fun e w' => (∃ x, e = .returned (.tuple #[.int .u32 (addrP p3).1, .int .i64 x])) ∧ Below W.heap.size W w' := fun W hD => (addr_calls (ba p3) W hD.laid.laid (by simp [ba, ByteArray.size]; omega)).mono fun _ _ ⟨he, hb⟩ => ⟨⟨(addrP p3).2, by rw [he]; simp [addrV, ba]⟩, hb⟩
      have hb3 := fun W => bytes_calls p3 W (by omega)
      have hb4 := fun W => bytes_calls p4 W (by omega)
      obtain ⟨K0, hK0⟩ : ∃ x, x = kindUpTo t 8 := ⟨_, rfl⟩
      have hKr := kindUpTo_range t 8
      rw [← hK0] at HK hKr
      have HDA := Aside0.mk HD
      have HKA := Aside0.mk HK
      have HT := Aside0.mk ht
      have HTK := Aside0.mk hK0
      clear HD HK ht hK0 hlit hk hlt
      have hm1 : (1 : Int) < (m : Int) := by omega
      have hm2 : (2 : Int) < (m : Int) := by omega
      have hm3 : (3 : Int) < (m : Int) := by omega
      have hm4 : (4 : Int) < (m : Int) := by omega
      have hK8 : K0 = 0 ∨ K0 = 1 ∨ K0 = 2 ∨ K0 = 3 ∨ K0 = 4 ∨ K0 = 5 ∨ K0 = 6 ∨ K0 = 7 ∨ K0 = 8 := by omega
      rcases hK8 with rfl | rfl | rfl | rfl | rfl | rfl | rfl | rfl | rfl
      · -- kind 0
        have hdp : decP s = (0, atoiP p1, 0, 0, 0, [], 0) := by unfold decP; rw [← HWS.out, decW]; simp [hp1, hp2, hp3, hp4, HT.out, ← HTK.out]
        have hV1r := atoiP_range p1
        obtain ⟨V1, hV1⟩ : ∃ x, x = atoiP p1 := ⟨_, rfl⟩
        rw [← hV1] at hdp hl1 hV1r
        have HV1R := Aside0.mk hV1r
        clear hV1 hV1r
        have HDP := Aside0.mk hdp
        clear hdp
        go_wp2_with (
          first
            | (with_reducible refine (hl1 _ HDA.out).mono ?_); rintro e w2 ⟨rfl, hb⟩
              have hD := HDA.out.next hb (blk_lt HKA.out)
              have hK := (hb.block _ (blk_lt HKA.out)).trans HKA.out
              have kf0 := blk_frozen hK 1
              have kc0 := (blk_cell hK 1).trans rfl
              have hK0 : (w2.setCell ⟨R + 1 + 1, 1, none⟩ (.int .i64 V1)).heap[R + 1 + 1]? = some (.cells #[.int .i64 0, .int .i64 V1, .int .u32 0, .int .u32 0, .int .i64 0, .slice none 0 0, .int .i64 0] 25 (0, 0)) := (blk_set hK 1 _).trans rfl
              have hD0 := hD.put 1 (.int .i64 V1)
              have k0 := (blk_cell hK0 0).trans rfl
              have k1 := (blk_cell hK0 1).trans rfl
              have k2 := (blk_cell hK0 2).trans rfl
              have k3 := (blk_cell hK0 3).trans rfl
              have k4 := (blk_cell hK0 4).trans rfl
              have k5 := (blk_cell hK0 5).trans rfl
              have k6 := (blk_cell hK0 6).trans rfl
              have HD2 := Aside0.mk hD0
              have HK2 := Aside0.mk hK0
              clear hb hD hK hK0 hD0)
        have hev : EvOk _ V1 0 0 0 none 0 0 [] 0 := ⟨HD2.out.laid.laid, Kd.C_nil _ _, fun b h => absurd h (by simp), by decide, HV1R.out, ⟨by decide, by decide⟩, ⟨by decide, by decide⟩, ⟨by decide, by decide⟩, ⟨by decide, by decide⟩⟩
        have henc := encode_calls 0 V1 0 0 0 none 0 0 [] 0 _ hev
        clear hev
        unfold evV at henc
        refine henc.mono ?_
        rintro e w9 ⟨rfl, hb⟩
        have hD := HD2.out.next hb (blk_lt HK2.out)
        have hK := (hb.block _ (blk_lt HK2.out)).trans HK2.out
        have HD9 := Aside0.mk hD
        have HK9 := Aside0.mk hK
        have q0 := (blk_cell hK 0).trans rfl
        have q1 := (blk_cell hK 1).trans rfl
        have q2 := (blk_cell hK 2).trans rfl
        have q3 := (blk_cell hK 3).trans rfl
        have q4 := (blk_cell hK 4).trans rfl
        have q5 := (blk_cell hK 5).trans rfl
        have q6 := (blk_cell hK 6).trans rfl
        have b0 := (blk_cell hD.b0 0).trans rfl
        have b1 := (blk_cell hD.b0 1).trans rfl
        have b2 := (blk_cell hD.b0 2).trans rfl
        have b3 := (blk_cell hD.b0 3).trans rfl
        have b4 := (blk_cell hD.b0 4).trans rfl
        have b5 := (blk_cell hD.b0 5).trans rfl
        have b6 := (blk_cell hD.b0 6).trans rfl
        have z0 := blk_frozen hD.b0 0
        have z1 := blk_frozen hD.b0 1
        have z2 := blk_frozen hD.b0 2
        have z3 := blk_frozen hD.b0 3
        have z4 := blk_frozen hD.b0 4
        have z5 := blk_frozen hD.b0 5
        have z6 := blk_frozen hD.b0 6
        clear hb hD hK henc
        obtain ⟨E, hE⟩ : ∃ E, E = encP 0 V1 0 0 0 [] 0 := ⟨_, rfl⟩
        rw [← hE]
        obtain ⟨E1, E2⟩ := E
        have HE := Aside0.mk hE
        clear hE
        by_cases h2 : E2 = 0
        · by_cases h1 : E1 = s
          · subst h2
            subst h1
            have hss : ((ba E1).toList == (ba E1).toList) = true := by simp
            go_wp2_with fail
            refine bodyPost_ret (results_ct rfl _ _ w.heap.size 25 #[.int .i64 0, .int .i64 V1, .int .u32 0, .int .u32 0, .int .i64 0, .slice none 0 0, .int .i64 0] (0, 0) _ rfl (put7_blk HD9.out.b0 _ _ _ _ _ _ _) Tryz.underlying25 rfl (by kernel_rfl)) rfl ?_
            refine ⟨put7_below HD9.out.below (Nat.le_refl _) _ _ _ _ _ _ _, ?_⟩
            unfold DecR
            rw [HDP.out]
            show if encP 0 V1 0 0 0 [] 0 = (E1, 0) then _ else _
            rw [if_pos HE.out.symm]
            exact ⟨none, 0, 0, rfl, ⟨Kd.C_nil _ _, Nat.le_refl _⟩⟩
          · subst h2
            have hss : ((ba E1).toList == (ba s).toList) = false := by simp only [ba, ByteArray.toList_mk]; exact beq_eq_false_iff_ne.2 h1
            have H1 := Aside0.mk h1
            clear h1
            go_wp2_with fail
            refine bodyPost_ret (results_ct rfl _ _ w.heap.size 25 #[.int .i64 0, .int .i64 0, .int .u32 0, .int .u32 0, .int .i64 0, .slice none 0 0, .int .i64 0] (0, 0) _ rfl (put7_blk HD9.out.b0 _ _ _ _ _ _ _) Tryz.underlying25 rfl (by kernel_rfl)) rfl ?_
            refine ⟨put7_below HD9.out.below (Nat.le_refl _) _ _ _ _ _ _ _, ?_⟩
            unfold DecR
            rw [HDP.out]
            show if encP 0 V1 0 0 0 [] 0 = (s, 0) then _ else _
            rw [if_neg (by rw [← HE.out]; intro h; exact H1.out (congrArg Prod.fst h))]
            rfl
        · have hz : (E2 == 0) = false := beq_eq_false_iff_ne.2 h2
          have hz' : (E2 != 0) = true := by rw [bne, hz]; rfl
          have H2 := Aside0.mk h2
          clear h2
          go_wp2_with fail
          refine bodyPost_ret (results_ct rfl _ _ w.heap.size 25 #[.int .i64 0, .int .i64 0, .int .u32 0, .int .u32 0, .int .i64 0, .slice none 0 0, .int .i64 0] (0, 0) _ rfl (put7_blk HD9.out.b0 _ _ _ _ _ _ _) Tryz.underlying25 rfl (by kernel_rfl)) rfl ?_
          refine ⟨put7_below HD9.out.below (Nat.le_refl _) _ _ _ _ _ _ _, ?_⟩
          unfold DecR
          rw [HDP.out]
          show if encP 0 V1 0 0 0 [] 0 = (s, 0) then _ else _
          rw [if_neg (by rw [← HE.out]; intro h; exact H2.out (congrArg Prod.snd h))]
          rfl
      · -- kind 1
        have hdp : decP s = (1, atoiP p1, 0, 0, 0, [], 0) := by unfold decP; rw [← HWS.out, decW]; simp [hp1, hp2, hp3, hp4, HT.out, ← HTK.out]
        have hV1r := atoiP_range p1
        obtain ⟨V1, hV1⟩ : ∃ x, x = atoiP p1 := ⟨_, rfl⟩
        rw [← hV1] at hdp hl1 hV1r
        have HV1R := Aside0.mk hV1r
        clear hV1 hV1r
        have HDP := Aside0.mk hdp
        clear hdp
        go_wp2_with (
          first
            | (with_reducible refine (hl1 _ HDA.out).mono ?_); rintro e w2 ⟨rfl, hb⟩
              have hD := HDA.out.next hb (blk_lt HKA.out)
              have hK := (hb.block _ (blk_lt HKA.out)).trans HKA.out
              have kf0 := blk_frozen hK 1
              have kc0 := (blk_cell hK 1).trans rfl
              have hK0 : (w2.setCell ⟨R + 1 + 1, 1, none⟩ (.int .i64 V1)).heap[R + 1 + 1]? = some (.cells #[.int .i64 1, .int .i64 V1, .int .u32 0, .int .u32 0, .int .i64 0, .slice none 0 0, .int .i64 0] 25 (0, 0)) := (blk_set hK 1 _).trans rfl
              have hD0 := hD.put 1 (.int .i64 V1)
              have k0 := (blk_cell hK0 0).trans rfl
              have k1 := (blk_cell hK0 1).trans rfl
              have k2 := (blk_cell hK0 2).trans rfl
              have k3 := (blk_cell hK0 3).trans rfl
              have k4 := (blk_cell hK0 4).trans rfl
              have k5 := (blk_cell hK0 5).trans rfl
              have k6 := (blk_cell hK0 6).trans rfl
              have HD2 := Aside0.mk hD0
              have HK2 := Aside0.mk hK0
              clear hb hD hK hK0 hD0)
        have hev : EvOk _ V1 0 0 0 none 0 0 [] 0 := ⟨HD2.out.laid.laid, Kd.C_nil _ _, fun b h => absurd h (by simp), by decide, HV1R.out, ⟨by decide, by decide⟩, ⟨by decide, by decide⟩, ⟨by decide, by decide⟩, ⟨by decide, by decide⟩⟩
        have henc := encode_calls 1 V1 0 0 0 none 0 0 [] 0 _ hev
        clear hev
        unfold evV at henc
        refine henc.mono ?_
        rintro e w9 ⟨rfl, hb⟩
        have hD := HD2.out.next hb (blk_lt HK2.out)
        have hK := (hb.block _ (blk_lt HK2.out)).trans HK2.out
        have HD9 := Aside0.mk hD
        have HK9 := Aside0.mk hK
        have q0 := (blk_cell hK 0).trans rfl
        have q1 := (blk_cell hK 1).trans rfl
        have q2 := (blk_cell hK 2).trans rfl
        have q3 := (blk_cell hK 3).trans rfl
        have q4 := (blk_cell hK 4).trans rfl
        have q5 := (blk_cell hK 5).trans rfl
        have q6 := (blk_cell hK 6).trans rfl
        have b0 := (blk_cell hD.b0 0).trans rfl
        have b1 := (blk_cell hD.b0 1).trans rfl
        have b2 := (blk_cell hD.b0 2).trans rfl
        have b3 := (blk_cell hD.b0 3).trans rfl
        have b4 := (blk_cell hD.b0 4).trans rfl
        have b5 := (blk_cell hD.b0 5).trans rfl
        have b6 := (blk_cell hD.b0 6).trans rfl
        have z0 := blk_frozen hD.b0 0
        have z1 := blk_frozen hD.b0 1
        have z2 := blk_frozen hD.b0 2
        have z3 := blk_frozen hD.b0 3
        have z4 := blk_frozen hD.b0 4
        have z5 := blk_frozen hD.b0 5
        have z6 := blk_frozen hD.b0 6
        clear hb hD hK henc
        obtain ⟨E, hE⟩ : ∃ E, E = encP 1 V1 0 0 0 [] 0 := ⟨_, rfl⟩
        rw [← hE]
        obtain ⟨E1, E2⟩ := E
        have HE := Aside0.mk hE
        clear hE
        by_cases h2 : E2 = 0
        · by_cases h1 : E1 = s
          · subst h2
            subst h1
            have hss : ((ba E1).toList == (ba E1).toList) = true := by simp
            go_wp2_with fail
            refine bodyPost_ret (results_ct rfl _ _ w.heap.size 25 #[.int .i64 1, .int .i64 V1, .int .u32 0, .int .u32 0, .int .i64 0, .slice none 0 0, .int .i64 0] (0, 0) _ rfl (put7_blk HD9.out.b0 _ _ _ _ _ _ _) Tryz.underlying25 rfl (by kernel_rfl)) rfl ?_
            refine ⟨put7_below HD9.out.below (Nat.le_refl _) _ _ _ _ _ _ _, ?_⟩
            unfold DecR
            rw [HDP.out]
            show if encP 1 V1 0 0 0 [] 0 = (E1, 0) then _ else _
            rw [if_pos HE.out.symm]
            exact ⟨none, 0, 0, rfl, ⟨Kd.C_nil _ _, Nat.le_refl _⟩⟩
          · subst h2
            have hss : ((ba E1).toList == (ba s).toList) = false := by simp only [ba, ByteArray.toList_mk]; exact beq_eq_false_iff_ne.2 h1
            have H1 := Aside0.mk h1
            clear h1
            go_wp2_with fail
            refine bodyPost_ret (results_ct rfl _ _ w.heap.size 25 #[.int .i64 0, .int .i64 0, .int .u32 0, .int .u32 0, .int .i64 0, .slice none 0 0, .int .i64 0] (0, 0) _ rfl (put7_blk HD9.out.b0 _ _ _ _ _ _ _) Tryz.underlying25 rfl (by kernel_rfl)) rfl ?_
            refine ⟨put7_below HD9.out.below (Nat.le_refl _) _ _ _ _ _ _ _, ?_⟩
            unfold DecR
            rw [HDP.out]
            show if encP 1 V1 0 0 0 [] 0 = (s, 0) then _ else _
            rw [if_neg (by rw [← HE.out]; intro h; exact H1.out (congrArg Prod.fst h))]
            rfl
        · have hz : (E2 == 0) = false := beq_eq_false_iff_ne.2 h2
          have hz' : (E2 != 0) = true := by rw [bne, hz]; rfl
          have H2 := Aside0.mk h2
          clear h2
          go_wp2_with fail
          refine bodyPost_ret (results_ct rfl _ _ w.heap.size 25 #[.int .i64 0, .int .i64 0, .int .u32 0, .int .u32 0, .int .i64 0, .slice none 0 0, .int .i64 0] (0, 0) _ rfl (put7_blk HD9.out.b0 _ _ _ _ _ _ _) Tryz.underlying25 rfl (by kernel_rfl)) rfl ?_
          refine ⟨put7_below HD9.out.below (Nat.le_refl _) _ _ _ _ _ _ _, ?_⟩
          unfold DecR
          rw [HDP.out]
          show if encP 1 V1 0 0 0 [] 0 = (s, 0) then _ else _
          rw [if_neg (by rw [← HE.out]; intro h; exact H2.out (congrArg Prod.snd h))]
          rfl
      · -- kind 2
        have hdp : decP s = (2, atoiP p1, (addrP p2).1, (addrP p3).1, 0, bytesP p4 [], 0) := by unfold decP; rw [← HWS.out, decW]; simp [hp1, hp2, hp3, hp4, HT.out, ← HTK.out]
        have hV1r := atoiP_range p1
        obtain ⟨V1, hV1⟩ : ∃ x, x = atoiP p1 := ⟨_, rfl⟩
        rw [← hV1] at hdp hl1 hV1r
        have HV1R := Aside0.mk hV1r
        clear hV1 hV1r
        have hV2r := addrP_range p2
        obtain ⟨V2, hV2⟩ : ∃ x, x = (addrP p2).1 := ⟨_, rfl⟩
        rw [← hV2] at hdp ha2 hV2r
        have HV2R := Aside0.mk hV2r
        clear hV2 hV2r
        have hV3r := addrP_range p3
        obtain ⟨V3, hV3⟩ : ∃ x, x = (addrP p3).1 := ⟨_, rfl⟩
        rw [← hV3] at hdp ha3 hV3r
        have HV3R := Aside0.mk hV3r
        clear hV3 hV3r
        have hLr := bytesP_ok p4
        have hLl : (bytesP p4 []).length ≤ 1048576 := Nat.le_trans (bytesP_len p4 []) (by have := hs4; simp only [List.length_nil]; omega)
        obtain ⟨L, hL⟩ : ∃ x, x = bytesP p4 [] := ⟨_, rfl⟩
        rw [← hL] at hdp hb4 hLr hLl
        have HLR := Aside0.mk (And.intro hLr hLl)
        clear hL hLr hLl
        have HDP := Aside0.mk hdp
        clear hdp
        go_wp2_with (
          first
            | (with_reducible refine (hl1 _ HDA.out).mono ?_); rintro e w2 ⟨rfl, hb⟩
              have hD := HDA.out.next hb (blk_lt HKA.out)
              have hK := (hb.block _ (blk_lt HKA.out)).trans HKA.out
              have kf0 := blk_frozen hK 1
              have kc0 := (blk_cell hK 1).trans rfl
              have hK0 : (w2.setCell ⟨R + 1 + 1, 1, none⟩ (.int .i64 V1)).heap[R + 1 + 1]? = some (.cells #[.int .i64 2, .int .i64 V1, .int .u32 0, .int .u32 0, .int .i64 0, .slice none 0 0, .int .i64 0] 25 (0, 0)) := (blk_set hK 1 _).trans rfl
              have hD0 := hD.put 1 (.int .i64 V1)
              have k0 := (blk_cell hK0 0).trans rfl
              have c4 := hD0.c4
              have r2 := hD0.row 2 _ hp2
              have HD2 := Aside0.mk hD0
              have HK2 := Aside0.mk hK0
              clear hb hD hK hK0 hD0
            | (with_reducible refine (ha2 _ HD2.out).mono ?_); rintro e w3 ⟨⟨xx, rfl⟩, hb⟩
              have hD := HD2.out.next hb (blk_lt HK2.out)
              have hK := (hb.block _ (blk_lt HK2.out)).trans HK2.out
              have kf0 := blk_frozen hK 2
              have kc0 := (blk_cell hK 2).trans rfl
              have hK0 : (w3.setCell ⟨R + 1 + 1, 2, none⟩ (.int .u32 V2)).heap[R + 1 + 1]? = some (.cells #[.int .i64 2, .int .i64 V1, .int .u32 V2, .int .u32 0, .int .i64 0, .slice none 0 0, .int .i64 0] 25 (0, 0)) := (blk_set hK 2 _).trans rfl
              have hD0 := hD.put 2 (.int .u32 V2)
              have c4 := hD0.c4
              have r3 := hD0.row 3 _ hp3
              have HD3 := Aside0.mk hD0
              have HK3 := Aside0.mk hK0
              clear hb hD hK hK0 hD0
            | (with_reducible refine (ha3 _ HD3.out).mono ?_); rintro e w4 ⟨⟨xx, rfl⟩, hb⟩
              have hD := HD3.out.next hb (blk_lt HK3.out)
              have hK := (hb.block _ (blk_lt HK3.out)).trans HK3.out
              have kf0 := blk_frozen hK 3
              have kc0 := (blk_cell hK 3).trans rfl
              have hK0 : (w4.setCell ⟨R + 1 + 1, 3, none⟩ (.int .u32 V3)).heap[R + 1 + 1]? = some (.cells #[.int .i64 2, .int .i64 V1, .int .u32 V2, .int .u32 V3, .int .i64 0, .slice none 0 0, .int .i64 0] 25 (0, 0)) := (blk_set hK 3 _).trans rfl
              have hD0 := hD.put 3 (.int .u32 V3)
              have c4 := hD0.c4
              have r4 := hD0.row 4 _ hp4
              have HD4 := Aside0.mk hD0
              have HK4 := Aside0.mk hK0
              clear hb hD hK hK0 hD0
            | (with_reducible refine (hb4 _).mono ?_); rintro e w5 ⟨bv, rfl, ho, hb⟩
              obtain ⟨BA, BC, rfl⟩ := own_slice ho
              obtain ⟨BM, hBM⟩ : ∃ x, x = L.length := ⟨_, rfl⟩
              have HBM := Aside0.mk hBM
              have hne := own_ne ho (((hb.block _ (blk_lt HK4.out)).trans HK4.out)) (by decide)
              rw [← hBM] at ho hne ⊢
              have HO := Aside0.mk ho
              have hD := HD4.out.next hb (blk_lt HK4.out)
              have hK := (hb.block _ (blk_lt HK4.out)).trans HK4.out
              have kf0 := blk_frozen hK 5
              have kc0 := (blk_cell hK 5).trans rfl
              have hK0 : (w5.setCell ⟨R + 1 + 1, 5, none⟩ (.slice BA BM BC)).heap[R + 1 + 1]? = some (.cells #[.int .i64 2, .int .i64 V1, .int .u32 V2, .int .u32 V3, .int .i64 0, .slice BA BM BC, .int .i64 0] 25 (0, 0)) := (blk_set hK 5 _).trans rfl
              have hD0 := hD.put 5 (.slice BA BM BC)
              have k0 := (blk_cell hK0 0).trans rfl
              have k1 := (blk_cell hK0 1).trans rfl
              have k2 := (blk_cell hK0 2).trans rfl
              have k3 := (blk_cell hK0 3).trans rfl
              have k4 := (blk_cell hK0 4).trans rfl
              have k5 := (blk_cell hK0 5).trans rfl
              have k6 := (blk_cell hK0 6).trans rfl
              have HD5 := Aside0.mk hD0
              have HK5 := Aside0.mk hK0
              have HO2 := Aside0.mk (own_setCell HO.out (p := ⟨R + 1 + 1, 5, none⟩) hne (.slice BA BM BC))
              clear hb hD hK hK0 hD0 hne ho hBM HO)
        have hev : EvOk _ V1 V2 V3 0 BA BM BC L 0 := ⟨HD5.out.laid.laid, by rw [HBM.out]; exact (C_of_own (HBM.out ▸ HO2.out)).2, HLR.out.1, by rw [HBM.out]; exact HLR.out.2, HV1R.out, HV2R.out, HV3R.out, ⟨by decide, by decide⟩, ⟨by decide, by decide⟩⟩
        have henc := encode_calls 2 V1 V2 V3 0 BA BM BC L 0 _ hev
        clear hev
        unfold evV at henc
        refine henc.mono ?_
        rintro e w9 ⟨rfl, hb⟩
        have hD := HD5.out.next hb (blk_lt HK5.out)
        have hK := (hb.block _ (blk_lt HK5.out)).trans HK5.out
        have HO9 := Aside0.mk (pw_own_below HO2.out hb)
        have HD9 := Aside0.mk hD
        have HK9 := Aside0.mk hK
        have q0 := (blk_cell hK 0).trans rfl
        have q1 := (blk_cell hK 1).trans rfl
        have q2 := (blk_cell hK 2).trans rfl
        have q3 := (blk_cell hK 3).trans rfl
        have q4 := (blk_cell hK 4).trans rfl
        have q5 := (blk_cell hK 5).trans rfl
        have q6 := (blk_cell hK 6).trans rfl
        have b0 := (blk_cell hD.b0 0).trans rfl
        have b1 := (blk_cell hD.b0 1).trans rfl
        have b2 := (blk_cell hD.b0 2).trans rfl
        have b3 := (blk_cell hD.b0 3).trans rfl
        have b4 := (blk_cell hD.b0 4).trans rfl
        have b5 := (blk_cell hD.b0 5).trans rfl
        have b6 := (blk_cell hD.b0 6).trans rfl
        have z0 := blk_frozen hD.b0 0
        have z1 := blk_frozen hD.b0 1
        have z2 := blk_frozen hD.b0 2
        have z3 := blk_frozen hD.b0 3
        have z4 := blk_frozen hD.b0 4
        have z5 := blk_frozen hD.b0 5
        have z6 := blk_frozen hD.b0 6
        clear hb hD hK henc
        obtain ⟨E, hE⟩ : ∃ E, E = encP 2 V1 V2 V3 0 L 0 := ⟨_, rfl⟩
        rw [← hE]
        obtain ⟨E1, E2⟩ := E
        have HE := Aside0.mk hE
        clear hE
        by_cases h2 : E2 = 0
        · by_cases h1 : E1 = s
          · subst h2
            subst h1
            have hss : ((ba E1).toList == (ba E1).toList) = true := by simp
            go_wp2_with fail
            refine bodyPost_ret (results_ct rfl _ _ w.heap.size 25 #[.int .i64 2, .int .i64 V1, .int .u32 V2, .int .u32 V3, .int .i64 0, .slice BA BM BC, .int .i64 0] (0, 0) _ rfl (put7_blk HD9.out.b0 _ _ _ _ _ _ _) Tryz.underlying25 rfl (by kernel_rfl)) rfl ?_
            refine ⟨put7_below HD9.out.below (Nat.le_refl _) _ _ _ _ _ _ _, ?_⟩
            unfold DecR
            rw [HDP.out]
            show if encP 2 V1 V2 V3 0 L 0 = (E1, 0) then _ else _
            rw [if_pos HE.out.symm]
            exact ⟨BA, BM, BC, rfl, by have ho := put7_own HO9.out (own_ne HO9.out HD9.out.b0 (by decide)) (.int .i64 2) (.int .i64 V1) (.int .u32 V2) (.int .u32 V3) (.int .i64 0) (.slice BA BM BC) (.int .i64 0); have hle := own_le ho; rw [HBM.out] at ho hle ⊢; exact ⟨(C_of_own ho).2, hle⟩⟩
          · subst h2
            have hss : ((ba E1).toList == (ba s).toList) = false := by simp only [ba, ByteArray.toList_mk]; exact beq_eq_false_iff_ne.2 h1
            have H1 := Aside0.mk h1
            clear h1
            go_wp2_with fail
            refine bodyPost_ret (results_ct rfl _ _ w.heap.size 25 #[.int .i64 0, .int .i64 0, .int .u32 0, .int .u32 0, .int .i64 0, .slice none 0 0, .int .i64 0] (0, 0) _ rfl (put7_blk HD9.out.b0 _ _ _ _ _ _ _) Tryz.underlying25 rfl (by kernel_rfl)) rfl ?_
            refine ⟨put7_below HD9.out.below (Nat.le_refl _) _ _ _ _ _ _ _, ?_⟩
            unfold DecR
            rw [HDP.out]
            show if encP 2 V1 V2 V3 0 L 0 = (s, 0) then _ else _
            rw [if_neg (by rw [← HE.out]; intro h; exact H1.out (congrArg Prod.fst h))]
            rfl
        · have hz : (E2 == 0) = false := beq_eq_false_iff_ne.2 h2
          have hz' : (E2 != 0) = true := by rw [bne, hz]; rfl
          have H2 := Aside0.mk h2
          clear h2
          go_wp2_with fail
          refine bodyPost_ret (results_ct rfl _ _ w.heap.size 25 #[.int .i64 0, .int .i64 0, .int .u32 0, .int .u32 0, .int .i64 0, .slice none 0 0, .int .i64 0] (0, 0) _ rfl (put7_blk HD9.out.b0 _ _ _ _ _ _ _) Tryz.underlying25 rfl (by kernel_rfl)) rfl ?_
          refine ⟨put7_below HD9.out.below (Nat.le_refl _) _ _ _ _ _ _ _, ?_⟩
          unfold DecR
          rw [HDP.out]
          show if encP 2 V1 V2 V3 0 L 0 = (s, 0) then _ else _
          rw [if_neg (by rw [← HE.out]; intro h; exact H2.out (congrArg Prod.snd h))]
          rfl
      · -- kind 3
        have hdp : decP s = (3, atoiP p1, 0, 0, atoiP p2, bytesP p3 [], 0) := by unfold decP; rw [← HWS.out, decW]; simp [hp1, hp2, hp3, hp4, HT.out, ← HTK.out]
        have hV1r := atoiP_range p1
        obtain ⟨V1, hV1⟩ : ∃ x, x = atoiP p1 := ⟨_, rfl⟩
        rw [← hV1] at hdp hl1 hV1r
        have HV1R := Aside0.mk hV1r
        clear hV1 hV1r
        have hV2r := atoiP_range p2
        obtain ⟨V2, hV2⟩ : ∃ x, x = atoiP p2 := ⟨_, rfl⟩
        rw [← hV2] at hdp hl2 hV2r
        have HV2R := Aside0.mk hV2r
        clear hV2 hV2r
        have hLr := bytesP_ok p3
        have hLl : (bytesP p3 []).length ≤ 1048576 := Nat.le_trans (bytesP_len p3 []) (by have := hs3; simp only [List.length_nil]; omega)
        obtain ⟨L, hL⟩ : ∃ x, x = bytesP p3 [] := ⟨_, rfl⟩
        rw [← hL] at hdp hb3 hLr hLl
        have HLR := Aside0.mk (And.intro hLr hLl)
        clear hL hLr hLl
        have HDP := Aside0.mk hdp
        clear hdp
        go_wp2_with (
          first
            | (with_reducible refine (hl1 _ HDA.out).mono ?_); rintro e w2 ⟨rfl, hb⟩
              have hD := HDA.out.next hb (blk_lt HKA.out)
              have hK := (hb.block _ (blk_lt HKA.out)).trans HKA.out
              have kf0 := blk_frozen hK 1
              have kc0 := (blk_cell hK 1).trans rfl
              have hK0 : (w2.setCell ⟨R + 1 + 1, 1, none⟩ (.int .i64 V1)).heap[R + 1 + 1]? = some (.cells #[.int .i64 3, .int .i64 V1, .int .u32 0, .int .u32 0, .int .i64 0, .slice none 0 0, .int .i64 0] 25 (0, 0)) := (blk_set hK 1 _).trans rfl
              have hD0 := hD.put 1 (.int .i64 V1)
              have k0 := (blk_cell hK0 0).trans rfl
              have HD2 := Aside0.mk hD0
              have HK2 := Aside0.mk hK0
              clear hb hD hK hK0 hD0
            | (with_reducible refine (hl2 _ HD2.out).mono ?_); rintro e w3 ⟨rfl, hb⟩
              have hD := HD2.out.next hb (blk_lt HK2.out)
              have hK := (hb.block _ (blk_lt HK2.out)).trans HK2.out
              have kf0 := blk_frozen hK 4
              have kc0 := (blk_cell hK 4).trans rfl
              have hK0 : (w3.setCell ⟨R + 1 + 1, 4, none⟩ (.int .i64 V2)).heap[R + 1 + 1]? = some (.cells #[.int .i64 3, .int .i64 V1, .int .u32 0, .int .u32 0, .int .i64 V2, .slice none 0 0, .int .i64 0] 25 (0, 0)) := (blk_set hK 4 _).trans rfl
              have hD0 := hD.put 4 (.int .i64 V2)
              have c4 := hD0.c4
              have r3 := hD0.row 3 _ hp3
              have HD3 := Aside0.mk hD0
              have HK3 := Aside0.mk hK0
              clear hb hD hK hK0 hD0
            | (with_reducible refine (hb3 _).mono ?_); rintro e w4 ⟨bv, rfl, ho, hb⟩
              obtain ⟨BA, BC, rfl⟩ := own_slice ho
              obtain ⟨BM, hBM⟩ : ∃ x, x = L.length := ⟨_, rfl⟩
              have HBM := Aside0.mk hBM
              have hne := own_ne ho (((hb.block _ (blk_lt HK3.out)).trans HK3.out)) (by decide)
              rw [← hBM] at ho hne ⊢
              have HO := Aside0.mk ho
              have hD := HD3.out.next hb (blk_lt HK3.out)
              have hK := (hb.block _ (blk_lt HK3.out)).trans HK3.out
              have kf0 := blk_frozen hK 5
              have kc0 := (blk_cell hK 5).trans rfl
              have hK0 : (w4.setCell ⟨R + 1 + 1, 5, none⟩ (.slice BA BM BC)).heap[R + 1 + 1]? = some (.cells #[.int .i64 3, .int .i64 V1, .int .u32 0, .int .u32 0, .int .i64 V2, .slice BA BM BC, .int .i64 0] 25 (0, 0)) := (blk_set hK 5 _).trans rfl
              have hD0 := hD.put 5 (.slice BA BM BC)
              have k0 := (blk_cell hK0 0).trans rfl
              have k1 := (blk_cell hK0 1).trans rfl
              have k2 := (blk_cell hK0 2).trans rfl
              have k3 := (blk_cell hK0 3).trans rfl
              have k4 := (blk_cell hK0 4).trans rfl
              have k5 := (blk_cell hK0 5).trans rfl
              have k6 := (blk_cell hK0 6).trans rfl
              have HD4 := Aside0.mk hD0
              have HK4 := Aside0.mk hK0
              have HO2 := Aside0.mk (own_setCell HO.out (p := ⟨R + 1 + 1, 5, none⟩) hne (.slice BA BM BC))
              clear hb hD hK hK0 hD0 hne ho hBM HO)
        have hev : EvOk _ V1 0 0 V2 BA BM BC L 0 := ⟨HD4.out.laid.laid, by rw [HBM.out]; exact (C_of_own (HBM.out ▸ HO2.out)).2, HLR.out.1, by rw [HBM.out]; exact HLR.out.2, HV1R.out, ⟨by decide, by decide⟩, ⟨by decide, by decide⟩, HV2R.out, ⟨by decide, by decide⟩⟩
        have henc := encode_calls 3 V1 0 0 V2 BA BM BC L 0 _ hev
        clear hev
        unfold evV at henc
        refine henc.mono ?_
        rintro e w9 ⟨rfl, hb⟩
        have hD := HD4.out.next hb (blk_lt HK4.out)
        have hK := (hb.block _ (blk_lt HK4.out)).trans HK4.out
        have HO9 := Aside0.mk (pw_own_below HO2.out hb)
        have HD9 := Aside0.mk hD
        have HK9 := Aside0.mk hK
        have q0 := (blk_cell hK 0).trans rfl
        have q1 := (blk_cell hK 1).trans rfl
        have q2 := (blk_cell hK 2).trans rfl
        have q3 := (blk_cell hK 3).trans rfl
        have q4 := (blk_cell hK 4).trans rfl
        have q5 := (blk_cell hK 5).trans rfl
        have q6 := (blk_cell hK 6).trans rfl
        have b0 := (blk_cell hD.b0 0).trans rfl
        have b1 := (blk_cell hD.b0 1).trans rfl
        have b2 := (blk_cell hD.b0 2).trans rfl
        have b3 := (blk_cell hD.b0 3).trans rfl
        have b4 := (blk_cell hD.b0 4).trans rfl
        have b5 := (blk_cell hD.b0 5).trans rfl
        have b6 := (blk_cell hD.b0 6).trans rfl
        have z0 := blk_frozen hD.b0 0
        have z1 := blk_frozen hD.b0 1
        have z2 := blk_frozen hD.b0 2
        have z3 := blk_frozen hD.b0 3
        have z4 := blk_frozen hD.b0 4
        have z5 := blk_frozen hD.b0 5
        have z6 := blk_frozen hD.b0 6
        clear hb hD hK henc
        obtain ⟨E, hE⟩ : ∃ E, E = encP 3 V1 0 0 V2 L 0 := ⟨_, rfl⟩
        rw [← hE]
        obtain ⟨E1, E2⟩ := E
        have HE := Aside0.mk hE
        clear hE
        by_cases h2 : E2 = 0
        · by_cases h1 : E1 = s
          · subst h2
            subst h1
            have hss : ((ba E1).toList == (ba E1).toList) = true := by simp
            go_wp2_with fail
            refine bodyPost_ret (results_ct rfl _ _ w.heap.size 25 #[.int .i64 3, .int .i64 V1, .int .u32 0, .int .u32 0, .int .i64 V2, .slice BA BM BC, .int .i64 0] (0, 0) _ rfl (put7_blk HD9.out.b0 _ _ _ _ _ _ _) Tryz.underlying25 rfl (by kernel_rfl)) rfl ?_
            refine ⟨put7_below HD9.out.below (Nat.le_refl _) _ _ _ _ _ _ _, ?_⟩
            unfold DecR
            rw [HDP.out]
            show if encP 3 V1 0 0 V2 L 0 = (E1, 0) then _ else _
            rw [if_pos HE.out.symm]
            exact ⟨BA, BM, BC, rfl, by have ho := put7_own HO9.out (own_ne HO9.out HD9.out.b0 (by decide)) (.int .i64 3) (.int .i64 V1) (.int .u32 0) (.int .u32 0) (.int .i64 V2) (.slice BA BM BC) (.int .i64 0); have hle := own_le ho; rw [HBM.out] at ho hle ⊢; exact ⟨(C_of_own ho).2, hle⟩⟩
          · subst h2
            have hss : ((ba E1).toList == (ba s).toList) = false := by simp only [ba, ByteArray.toList_mk]; exact beq_eq_false_iff_ne.2 h1
            have H1 := Aside0.mk h1
            clear h1
            go_wp2_with fail
            refine bodyPost_ret (results_ct rfl _ _ w.heap.size 25 #[.int .i64 0, .int .i64 0, .int .u32 0, .int .u32 0, .int .i64 0, .slice none 0 0, .int .i64 0] (0, 0) _ rfl (put7_blk HD9.out.b0 _ _ _ _ _ _ _) Tryz.underlying25 rfl (by kernel_rfl)) rfl ?_
            refine ⟨put7_below HD9.out.below (Nat.le_refl _) _ _ _ _ _ _ _, ?_⟩
            unfold DecR
            rw [HDP.out]
            show if encP 3 V1 0 0 V2 L 0 = (s, 0) then _ else _
            rw [if_neg (by rw [← HE.out]; intro h; exact H1.out (congrArg Prod.fst h))]
            rfl
        · have hz : (E2 == 0) = false := beq_eq_false_iff_ne.2 h2
          have hz' : (E2 != 0) = true := by rw [bne, hz]; rfl
          have H2 := Aside0.mk h2
          clear h2
          go_wp2_with fail
          refine bodyPost_ret (results_ct rfl _ _ w.heap.size 25 #[.int .i64 0, .int .i64 0, .int .u32 0, .int .u32 0, .int .i64 0, .slice none 0 0, .int .i64 0] (0, 0) _ rfl (put7_blk HD9.out.b0 _ _ _ _ _ _ _) Tryz.underlying25 rfl (by kernel_rfl)) rfl ?_
          refine ⟨put7_below HD9.out.below (Nat.le_refl _) _ _ _ _ _ _ _, ?_⟩
          unfold DecR
          rw [HDP.out]
          show if encP 3 V1 0 0 V2 L 0 = (s, 0) then _ else _
          rw [if_neg (by rw [← HE.out]; intro h; exact H2.out (congrArg Prod.snd h))]
          rfl
      · -- kind 4
        have hdp : decP s = (4, atoiP p1, 0, 0, atoiP p2, [], atoiP p3) := by unfold decP; rw [← HWS.out, decW]; simp [hp1, hp2, hp3, hp4, HT.out, ← HTK.out]
        have hV1r := atoiP_range p1
        obtain ⟨V1, hV1⟩ : ∃ x, x = atoiP p1 := ⟨_, rfl⟩
        rw [← hV1] at hdp hl1 hV1r
        have HV1R := Aside0.mk hV1r
        clear hV1 hV1r
        have hV2r := atoiP_range p2
        obtain ⟨V2, hV2⟩ : ∃ x, x = atoiP p2 := ⟨_, rfl⟩
        rw [← hV2] at hdp hl2 hV2r
        have HV2R := Aside0.mk hV2r
        clear hV2 hV2r
        have hV3r := atoiP_range p3
        obtain ⟨V3, hV3⟩ : ∃ x, x = atoiP p3 := ⟨_, rfl⟩
        rw [← hV3] at hdp hl3 hV3r
        have HV3R := Aside0.mk hV3r
        clear hV3 hV3r
        have HDP := Aside0.mk hdp
        clear hdp
        go_wp2_with (
          first
            | (with_reducible refine (hl1 _ HDA.out).mono ?_); rintro e w2 ⟨rfl, hb⟩
              have hD := HDA.out.next hb (blk_lt HKA.out)
              have hK := (hb.block _ (blk_lt HKA.out)).trans HKA.out
              have kf0 := blk_frozen hK 1
              have kc0 := (blk_cell hK 1).trans rfl
              have hK0 : (w2.setCell ⟨R + 1 + 1, 1, none⟩ (.int .i64 V1)).heap[R + 1 + 1]? = some (.cells #[.int .i64 4, .int .i64 V1, .int .u32 0, .int .u32 0, .int .i64 0, .slice none 0 0, .int .i64 0] 25 (0, 0)) := (blk_set hK 1 _).trans rfl
              have hD0 := hD.put 1 (.int .i64 V1)
              have k0 := (blk_cell hK0 0).trans rfl
              have HD2 := Aside0.mk hD0
              have HK2 := Aside0.mk hK0
              clear hb hD hK hK0 hD0
            | (with_reducible refine (hl2 _ HD2.out).mono ?_); rintro e w3 ⟨rfl, hb⟩
              have hD := HD2.out.next hb (blk_lt HK2.out)
              have hK := (hb.block _ (blk_lt HK2.out)).trans HK2.out
              have HD3 := Aside0.mk hD
              have HK3 := Aside0.mk hK
              clear hb hD hK 
            | (with_reducible refine (hl3 _ HD3.out).mono ?_); rintro e w4 ⟨rfl, hb⟩
              have hD := HD3.out.next hb (blk_lt HK3.out)
              have hK := (hb.block _ (blk_lt HK3.out)).trans HK3.out
              have kf0 := blk_frozen hK 4
              have kc0 := (blk_cell hK 4).trans rfl
              have hK0 : (w4.setCell ⟨R + 1 + 1, 4, none⟩ (.int .i64 V2)).heap[R + 1 + 1]? = some (.cells #[.int .i64 4, .int .i64 V1, .int .u32 0, .int .u32 0, .int .i64 V2, .slice none 0 0, .int .i64 0] 25 (0, 0)) := (blk_set hK 4 _).trans rfl
              have hD0 := hD.put 4 (.int .i64 V2)
              have kf1 := blk_frozen hK0 6
              have kc1 := (blk_cell hK0 6).trans rfl
              have hK1 : ((w4.setCell ⟨R + 1 + 1, 4, none⟩ (.int .i64 V2)).setCell ⟨R + 1 + 1, 6, none⟩ (.int .i64 V3)).heap[R + 1 + 1]? = some (.cells #[.int .i64 4, .int .i64 V1, .int .u32 0, .int .u32 0, .int .i64 V2, .slice none 0 0, .int .i64 V3] 25 (0, 0)) := (blk_set hK0 6 _).trans rfl
              have hD1 := hD0.put 6 (.int .i64 V3)
              have k0 := (blk_cell hK1 0).trans rfl
              have k1 := (blk_cell hK1 1).trans rfl
              have k2 := (blk_cell hK1 2).trans rfl
              have k3 := (blk_cell hK1 3).trans rfl
              have k4 := (blk_cell hK1 4).trans rfl
              have k5 := (blk_cell hK1 5).trans rfl
              have k6 := (blk_cell hK1 6).trans rfl
              have HD4 := Aside0.mk hD1
              have HK4 := Aside0.mk hK1
              clear hb hD hK hK0 hD0 hK1 hD1)
        have hev : EvOk _ V1 0 0 V2 none 0 0 [] V3 := ⟨HD4.out.laid.laid, Kd.C_nil _ _, fun b h => absurd h (by simp), by decide, HV1R.out, ⟨by decide, by decide⟩, ⟨by decide, by decide⟩, HV2R.out, HV3R.out⟩
        have henc := encode_calls 4 V1 0 0 V2 none 0 0 [] V3 _ hev
        clear hev
        unfold evV at henc
        refine henc.mono ?_
        rintro e w9 ⟨rfl, hb⟩
        have hD := HD4.out.next hb (blk_lt HK4.out)
        have hK := (hb.block _ (blk_lt HK4.out)).trans HK4.out
        have HD9 := Aside0.mk hD
        have HK9 := Aside0.mk hK
        have q0 := (blk_cell hK 0).trans rfl
        have q1 := (blk_cell hK 1).trans rfl
        have q2 := (blk_cell hK 2).trans rfl
        have q3 := (blk_cell hK 3).trans rfl
        have q4 := (blk_cell hK 4).trans rfl
        have q5 := (blk_cell hK 5).trans rfl
        have q6 := (blk_cell hK 6).trans rfl
        have b0 := (blk_cell hD.b0 0).trans rfl
        have b1 := (blk_cell hD.b0 1).trans rfl
        have b2 := (blk_cell hD.b0 2).trans rfl
        have b3 := (blk_cell hD.b0 3).trans rfl
        have b4 := (blk_cell hD.b0 4).trans rfl
        have b5 := (blk_cell hD.b0 5).trans rfl
        have b6 := (blk_cell hD.b0 6).trans rfl
        have z0 := blk_frozen hD.b0 0
        have z1 := blk_frozen hD.b0 1
        have z2 := blk_frozen hD.b0 2
        have z3 := blk_frozen hD.b0 3
        have z4 := blk_frozen hD.b0 4
        have z5 := blk_frozen hD.b0 5
        have z6 := blk_frozen hD.b0 6
        clear hb hD hK henc
        obtain ⟨E, hE⟩ : ∃ E, E = encP 4 V1 0 0 V2 [] V3 := ⟨_, rfl⟩
        rw [← hE]
        obtain ⟨E1, E2⟩ := E
        have HE := Aside0.mk hE
        clear hE
        by_cases h2 : E2 = 0
        · by_cases h1 : E1 = s
          · subst h2
            subst h1
            have hss : ((ba E1).toList == (ba E1).toList) = true := by simp
            go_wp2_with fail
            refine bodyPost_ret (results_ct rfl _ _ w.heap.size 25 #[.int .i64 4, .int .i64 V1, .int .u32 0, .int .u32 0, .int .i64 V2, .slice none 0 0, .int .i64 V3] (0, 0) _ rfl (put7_blk HD9.out.b0 _ _ _ _ _ _ _) Tryz.underlying25 rfl (by kernel_rfl)) rfl ?_
            refine ⟨put7_below HD9.out.below (Nat.le_refl _) _ _ _ _ _ _ _, ?_⟩
            unfold DecR
            rw [HDP.out]
            show if encP 4 V1 0 0 V2 [] V3 = (E1, 0) then _ else _
            rw [if_pos HE.out.symm]
            exact ⟨none, 0, 0, rfl, ⟨Kd.C_nil _ _, Nat.le_refl _⟩⟩
          · subst h2
            have hss : ((ba E1).toList == (ba s).toList) = false := by simp only [ba, ByteArray.toList_mk]; exact beq_eq_false_iff_ne.2 h1
            have H1 := Aside0.mk h1
            clear h1
            go_wp2_with fail
            refine bodyPost_ret (results_ct rfl _ _ w.heap.size 25 #[.int .i64 0, .int .i64 0, .int .u32 0, .int .u32 0, .int .i64 0, .slice none 0 0, .int .i64 0] (0, 0) _ rfl (put7_blk HD9.out.b0 _ _ _ _ _ _ _) Tryz.underlying25 rfl (by kernel_rfl)) rfl ?_
            refine ⟨put7_below HD9.out.below (Nat.le_refl _) _ _ _ _ _ _ _, ?_⟩
            unfold DecR
            rw [HDP.out]
            show if encP 4 V1 0 0 V2 [] V3 = (s, 0) then _ else _
            rw [if_neg (by rw [← HE.out]; intro h; exact H1.out (congrArg Prod.fst h))]
            rfl
        · have hz : (E2 == 0) = false := beq_eq_false_iff_ne.2 h2
          have hz' : (E2 != 0) = true := by rw [bne, hz]; rfl
          have H2 := Aside0.mk h2
          clear h2
          go_wp2_with fail
          refine bodyPost_ret (results_ct rfl _ _ w.heap.size 25 #[.int .i64 0, .int .i64 0, .int .u32 0, .int .u32 0, .int .i64 0, .slice none 0 0, .int .i64 0] (0, 0) _ rfl (put7_blk HD9.out.b0 _ _ _ _ _ _ _) Tryz.underlying25 rfl (by kernel_rfl)) rfl ?_
          refine ⟨put7_below HD9.out.below (Nat.le_refl _) _ _ _ _ _ _ _, ?_⟩
          unfold DecR
          rw [HDP.out]
          show if encP 4 V1 0 0 V2 [] V3 = (s, 0) then _ else _
          rw [if_neg (by rw [← HE.out]; intro h; exact H2.out (congrArg Prod.snd h))]
          rfl
      · -- kind 5
        have hdp : decP s = (5, atoiP p1, 0, 0, 0, [], atoiP p2) := by unfold decP; rw [← HWS.out, decW]; simp [hp1, hp2, hp3, hp4, HT.out, ← HTK.out]
        have hV1r := atoiP_range p1
        obtain ⟨V1, hV1⟩ : ∃ x, x = atoiP p1 := ⟨_, rfl⟩
        rw [← hV1] at hdp hl1 hV1r
        have HV1R := Aside0.mk hV1r
        clear hV1 hV1r
        have hV2r := atoiP_range p2
        obtain ⟨V2, hV2⟩ : ∃ x, x = atoiP p2 := ⟨_, rfl⟩
        rw [← hV2] at hdp hl2 hV2r
        have HV2R := Aside0.mk hV2r
        clear hV2 hV2r
        have HDP := Aside0.mk hdp
        clear hdp
        go_wp2_with (
          first
            | (with_reducible refine (hl1 _ HDA.out).mono ?_); rintro e w2 ⟨rfl, hb⟩
              have hD := HDA.out.next hb (blk_lt HKA.out)
              have hK := (hb.block _ (blk_lt HKA.out)).trans HKA.out
              have kf0 := blk_frozen hK 1
              have kc0 := (blk_cell hK 1).trans rfl
              have hK0 : (w2.setCell ⟨R + 1 + 1, 1, none⟩ (.int .i64 V1)).heap[R + 1 + 1]? = some (.cells #[.int .i64 5, .int .i64 V1, .int .u32 0, .int .u32 0, .int .i64 0, .slice none 0 0, .int .i64 0] 25 (0, 0)) := (blk_set hK 1 _).trans rfl
              have hD0 := hD.put 1 (.int .i64 V1)
              have k0 := (blk_cell hK0 0).trans rfl
              have HD2 := Aside0.mk hD0
              have HK2 := Aside0.mk hK0
              clear hb hD hK hK0 hD0
            | (with_reducible refine (hl2 _ HD2.out).mono ?_); rintro e w3 ⟨rfl, hb⟩
              have hD := HD2.out.next hb (blk_lt HK2.out)
              have hK := (hb.block _ (blk_lt HK2.out)).trans HK2.out
              have kf0 := blk_frozen hK 6
              have kc0 := (blk_cell hK 6).trans rfl
              have hK0 : (w3.setCell ⟨R + 1 + 1, 6, none⟩ (.int .i64 V2)).heap[R + 1 + 1]? = some (.cells #[.int .i64 5, .int .i64 V1, .int .u32 0, .int .u32 0, .int .i64 0, .slice none 0 0, .int .i64 V2] 25 (0, 0)) := (blk_set hK 6 _).trans rfl
              have hD0 := hD.put 6 (.int .i64 V2)
              have k0 := (blk_cell hK0 0).trans rfl
              have k1 := (blk_cell hK0 1).trans rfl
              have k2 := (blk_cell hK0 2).trans rfl
              have k3 := (blk_cell hK0 3).trans rfl
              have k4 := (blk_cell hK0 4).trans rfl
              have k5 := (blk_cell hK0 5).trans rfl
              have k6 := (blk_cell hK0 6).trans rfl
              have HD3 := Aside0.mk hD0
              have HK3 := Aside0.mk hK0
              clear hb hD hK hK0 hD0)
        have hev : EvOk _ V1 0 0 0 none 0 0 [] V2 := ⟨HD3.out.laid.laid, Kd.C_nil _ _, fun b h => absurd h (by simp), by decide, HV1R.out, ⟨by decide, by decide⟩, ⟨by decide, by decide⟩, ⟨by decide, by decide⟩, HV2R.out⟩
        have henc := encode_calls 5 V1 0 0 0 none 0 0 [] V2 _ hev
        clear hev
        unfold evV at henc
        refine henc.mono ?_
        rintro e w9 ⟨rfl, hb⟩
        have hD := HD3.out.next hb (blk_lt HK3.out)
        have hK := (hb.block _ (blk_lt HK3.out)).trans HK3.out
        have HD9 := Aside0.mk hD
        have HK9 := Aside0.mk hK
        have q0 := (blk_cell hK 0).trans rfl
        have q1 := (blk_cell hK 1).trans rfl
        have q2 := (blk_cell hK 2).trans rfl
        have q3 := (blk_cell hK 3).trans rfl
        have q4 := (blk_cell hK 4).trans rfl
        have q5 := (blk_cell hK 5).trans rfl
        have q6 := (blk_cell hK 6).trans rfl
        have b0 := (blk_cell hD.b0 0).trans rfl
        have b1 := (blk_cell hD.b0 1).trans rfl
        have b2 := (blk_cell hD.b0 2).trans rfl
        have b3 := (blk_cell hD.b0 3).trans rfl
        have b4 := (blk_cell hD.b0 4).trans rfl
        have b5 := (blk_cell hD.b0 5).trans rfl
        have b6 := (blk_cell hD.b0 6).trans rfl
        have z0 := blk_frozen hD.b0 0
        have z1 := blk_frozen hD.b0 1
        have z2 := blk_frozen hD.b0 2
        have z3 := blk_frozen hD.b0 3
        have z4 := blk_frozen hD.b0 4
        have z5 := blk_frozen hD.b0 5
        have z6 := blk_frozen hD.b0 6
        clear hb hD hK henc
        obtain ⟨E, hE⟩ : ∃ E, E = encP 5 V1 0 0 0 [] V2 := ⟨_, rfl⟩
        rw [← hE]
        obtain ⟨E1, E2⟩ := E
        have HE := Aside0.mk hE
        clear hE
        by_cases h2 : E2 = 0
        · by_cases h1 : E1 = s
          · subst h2
            subst h1
            have hss : ((ba E1).toList == (ba E1).toList) = true := by simp
            go_wp2_with fail
            refine bodyPost_ret (results_ct rfl _ _ w.heap.size 25 #[.int .i64 5, .int .i64 V1, .int .u32 0, .int .u32 0, .int .i64 0, .slice none 0 0, .int .i64 V2] (0, 0) _ rfl (put7_blk HD9.out.b0 _ _ _ _ _ _ _) Tryz.underlying25 rfl (by kernel_rfl)) rfl ?_
            refine ⟨put7_below HD9.out.below (Nat.le_refl _) _ _ _ _ _ _ _, ?_⟩
            unfold DecR
            rw [HDP.out]
            show if encP 5 V1 0 0 0 [] V2 = (E1, 0) then _ else _
            rw [if_pos HE.out.symm]
            exact ⟨none, 0, 0, rfl, ⟨Kd.C_nil _ _, Nat.le_refl _⟩⟩
          · subst h2
            have hss : ((ba E1).toList == (ba s).toList) = false := by simp only [ba, ByteArray.toList_mk]; exact beq_eq_false_iff_ne.2 h1
            have H1 := Aside0.mk h1
            clear h1
            go_wp2_with fail
            refine bodyPost_ret (results_ct rfl _ _ w.heap.size 25 #[.int .i64 0, .int .i64 0, .int .u32 0, .int .u32 0, .int .i64 0, .slice none 0 0, .int .i64 0] (0, 0) _ rfl (put7_blk HD9.out.b0 _ _ _ _ _ _ _) Tryz.underlying25 rfl (by kernel_rfl)) rfl ?_
            refine ⟨put7_below HD9.out.below (Nat.le_refl _) _ _ _ _ _ _ _, ?_⟩
            unfold DecR
            rw [HDP.out]
            show if encP 5 V1 0 0 0 [] V2 = (s, 0) then _ else _
            rw [if_neg (by rw [← HE.out]; intro h; exact H1.out (congrArg Prod.fst h))]
            rfl
        · have hz : (E2 == 0) = false := beq_eq_false_iff_ne.2 h2
          have hz' : (E2 != 0) = true := by rw [bne, hz]; rfl
          have H2 := Aside0.mk h2
          clear h2
          go_wp2_with fail
          refine bodyPost_ret (results_ct rfl _ _ w.heap.size 25 #[.int .i64 0, .int .i64 0, .int .u32 0, .int .u32 0, .int .i64 0, .slice none 0 0, .int .i64 0] (0, 0) _ rfl (put7_blk HD9.out.b0 _ _ _ _ _ _ _) Tryz.underlying25 rfl (by kernel_rfl)) rfl ?_
          refine ⟨put7_below HD9.out.below (Nat.le_refl _) _ _ _ _ _ _ _, ?_⟩
          unfold DecR
          rw [HDP.out]
          show if encP 5 V1 0 0 0 [] V2 = (s, 0) then _ else _
          rw [if_neg (by rw [← HE.out]; intro h; exact H2.out (congrArg Prod.snd h))]
          rfl
      · -- kind 6
        have hdp : decP s = (6, atoiP p1, 0, 0, 0, [], atoiP p2) := by unfold decP; rw [← HWS.out, decW]; simp [hp1, hp2, hp3, hp4, HT.out, ← HTK.out]
        have hV1r := atoiP_range p1
        obtain ⟨V1, hV1⟩ : ∃ x, x = atoiP p1 := ⟨_, rfl⟩
        rw [← hV1] at hdp hl1 hV1r
        have HV1R := Aside0.mk hV1r
        clear hV1 hV1r
        have hV2r := atoiP_range p2
        obtain ⟨V2, hV2⟩ : ∃ x, x = atoiP p2 := ⟨_, rfl⟩
        rw [← hV2] at hdp hl2 hV2r
        have HV2R := Aside0.mk hV2r
        clear hV2 hV2r
        have HDP := Aside0.mk hdp
        clear hdp
        go_wp2_with (
          first
            | (with_reducible refine (hl1 _ HDA.out).mono ?_); rintro e w2 ⟨rfl, hb⟩
              have hD := HDA.out.next hb (blk_lt HKA.out)
              have hK := (hb.block _ (blk_lt HKA.out)).trans HKA.out
              have kf0 := blk_frozen hK 1
              have kc0 := (blk_cell hK 1).trans rfl
              have hK0 : (w2.setCell ⟨R + 1 + 1, 1, none⟩ (.int .i64 V1)).heap[R + 1 + 1]? = some (.cells #[.int .i64 6, .int .i64 V1, .int .u32 0, .int .u32 0, .int .i64 0, .slice none 0 0, .int .i64 0] 25 (0, 0)) := (blk_set hK 1 _).trans rfl
              have hD0 := hD.put 1 (.int .i64 V1)
              have k0 := (blk_cell hK0 0).trans rfl
              have HD2 := Aside0.mk hD0
              have HK2 := Aside0.mk hK0
              clear hb hD hK hK0 hD0
            | (with_reducible refine (hl2 _ HD2.out).mono ?_); rintro e w3 ⟨rfl, hb⟩
              have hD := HD2.out.next hb (blk_lt HK2.out)
              have hK := (hb.block _ (blk_lt HK2.out)).trans HK2.out
              have kf0 := blk_frozen hK 6
              have kc0 := (blk_cell hK 6).trans rfl
              have hK0 : (w3.setCell ⟨R + 1 + 1, 6, none⟩ (.int .i64 V2)).heap[R + 1 + 1]? = some (.cells #[.int .i64 6, .int .i64 V1, .int .u32 0, .int .u32 0, .int .i64 0, .slice none 0 0, .int .i64 V2] 25 (0, 0)) := (blk_set hK 6 _).trans rfl
              have hD0 := hD.put 6 (.int .i64 V2)
              have k0 := (blk_cell hK0 0).trans rfl
              have k1 := (blk_cell hK0 1).trans rfl
              have k2 := (blk_cell hK0 2).trans rfl
              have k3 := (blk_cell hK0 3).trans rfl
              have k4 := (blk_cell hK0 4).trans rfl
              have k5 := (blk_cell hK0 5).trans rfl
              have k6 := (blk_cell hK0 6).trans rfl
              have HD3 := Aside0.mk hD0
              have HK3 := Aside0.mk hK0
              clear hb hD hK hK0 hD0)
        have hev : EvOk _ V1 0 0 0 none 0 0 [] V2 := ⟨HD3.out.laid.laid, Kd.C_nil _ _, fun b h => absurd h (by simp), by decide, HV1R.out, ⟨by decide, by decide⟩, ⟨by decide, by decide⟩, ⟨by decide, by decide⟩, HV2R.out⟩
        have henc := encode_calls 6 V1 0 0 0 none 0 0 [] V2 _ hev
        clear hev
        unfold evV at henc
        refine henc.mono ?_
        rintro e w9 ⟨rfl, hb⟩
        have hD := HD3.out.next hb (blk_lt HK3.out)
        have hK := (hb.block _ (blk_lt HK3.out)).trans HK3.out
        have HD9 := Aside0.mk hD
        have HK9 := Aside0.mk hK
        have q0 := (blk_cell hK 0).trans rfl
        have q1 := (blk_cell hK 1).trans rfl
        have q2 := (blk_cell hK 2).trans rfl
        have q3 := (blk_cell hK 3).trans rfl
        have q4 := (blk_cell hK 4).trans rfl
        have q5 := (blk_cell hK 5).trans rfl
        have q6 := (blk_cell hK 6).trans rfl
        have b0 := (blk_cell hD.b0 0).trans rfl
        have b1 := (blk_cell hD.b0 1).trans rfl
        have b2 := (blk_cell hD.b0 2).trans rfl
        have b3 := (blk_cell hD.b0 3).trans rfl
        have b4 := (blk_cell hD.b0 4).trans rfl
        have b5 := (blk_cell hD.b0 5).trans rfl
        have b6 := (blk_cell hD.b0 6).trans rfl
        have z0 := blk_frozen hD.b0 0
        have z1 := blk_frozen hD.b0 1
        have z2 := blk_frozen hD.b0 2
        have z3 := blk_frozen hD.b0 3
        have z4 := blk_frozen hD.b0 4
        have z5 := blk_frozen hD.b0 5
        have z6 := blk_frozen hD.b0 6
        clear hb hD hK henc
        obtain ⟨E, hE⟩ : ∃ E, E = encP 6 V1 0 0 0 [] V2 := ⟨_, rfl⟩
        rw [← hE]
        obtain ⟨E1, E2⟩ := E
        have HE := Aside0.mk hE
        clear hE
        by_cases h2 : E2 = 0
        · by_cases h1 : E1 = s
          · subst h2
            subst h1
            have hss : ((ba E1).toList == (ba E1).toList) = true := by simp
            go_wp2_with fail
            refine bodyPost_ret (results_ct rfl _ _ w.heap.size 25 #[.int .i64 6, .int .i64 V1, .int .u32 0, .int .u32 0, .int .i64 0, .slice none 0 0, .int .i64 V2] (0, 0) _ rfl (put7_blk HD9.out.b0 _ _ _ _ _ _ _) Tryz.underlying25 rfl (by kernel_rfl)) rfl ?_
            refine ⟨put7_below HD9.out.below (Nat.le_refl _) _ _ _ _ _ _ _, ?_⟩
            unfold DecR
            rw [HDP.out]
            show if encP 6 V1 0 0 0 [] V2 = (E1, 0) then _ else _
            rw [if_pos HE.out.symm]
            exact ⟨none, 0, 0, rfl, ⟨Kd.C_nil _ _, Nat.le_refl _⟩⟩
          · subst h2
            have hss : ((ba E1).toList == (ba s).toList) = false := by simp only [ba, ByteArray.toList_mk]; exact beq_eq_false_iff_ne.2 h1
            have H1 := Aside0.mk h1
            clear h1
            go_wp2_with fail
            refine bodyPost_ret (results_ct rfl _ _ w.heap.size 25 #[.int .i64 0, .int .i64 0, .int .u32 0, .int .u32 0, .int .i64 0, .slice none 0 0, .int .i64 0] (0, 0) _ rfl (put7_blk HD9.out.b0 _ _ _ _ _ _ _) Tryz.underlying25 rfl (by kernel_rfl)) rfl ?_
            refine ⟨put7_below HD9.out.below (Nat.le_refl _) _ _ _ _ _ _ _, ?_⟩
            unfold DecR
            rw [HDP.out]
            show if encP 6 V1 0 0 0 [] V2 = (s, 0) then _ else _
            rw [if_neg (by rw [← HE.out]; intro h; exact H1.out (congrArg Prod.fst h))]
            rfl
        · have hz : (E2 == 0) = false := beq_eq_false_iff_ne.2 h2
          have hz' : (E2 != 0) = true := by rw [bne, hz]; rfl
          have H2 := Aside0.mk h2
          clear h2
          go_wp2_with fail
          refine bodyPost_ret (results_ct rfl _ _ w.heap.size 25 #[.int .i64 0, .int .i64 0, .int .u32 0, .int .u32 0, .int .i64 0, .slice none 0 0, .int .i64 0] (0, 0) _ rfl (put7_blk HD9.out.b0 _ _ _ _ _ _ _) Tryz.underlying25 rfl (by kernel_rfl)) rfl ?_
          refine ⟨put7_below HD9.out.below (Nat.le_refl _) _ _ _ _ _ _ _, ?_⟩
          unfold DecR
          rw [HDP.out]
          show if encP 6 V1 0 0 0 [] V2 = (s, 0) then _ else _
          rw [if_neg (by rw [← HE.out]; intro h; exact H2.out (congrArg Prod.snd h))]
          rfl
      · -- kind 7
        have hdp : decP s = (7, atoiP p1, 0, 0, 0, [], 0) := by unfold decP; rw [← HWS.out, decW]; simp [hp1, hp2, hp3, hp4, HT.out, ← HTK.out]
        have hV1r := atoiP_range p1
        obtain ⟨V1, hV1⟩ : ∃ x, x = atoiP p1 := ⟨_, rfl⟩
        rw [← hV1] at hdp hl1 hV1r
        have HV1R := Aside0.mk hV1r
        clear hV1 hV1r
        have HDP := Aside0.mk hdp
        clear hdp
        go_wp2_with (
          first
            | (with_reducible refine (hl1 _ HDA.out).mono ?_); rintro e w2 ⟨rfl, hb⟩
              have hD := HDA.out.next hb (blk_lt HKA.out)
              have hK := (hb.block _ (blk_lt HKA.out)).trans HKA.out
              have kf0 := blk_frozen hK 1
              have kc0 := (blk_cell hK 1).trans rfl
              have hK0 : (w2.setCell ⟨R + 1 + 1, 1, none⟩ (.int .i64 V1)).heap[R + 1 + 1]? = some (.cells #[.int .i64 7, .int .i64 V1, .int .u32 0, .int .u32 0, .int .i64 0, .slice none 0 0, .int .i64 0] 25 (0, 0)) := (blk_set hK 1 _).trans rfl
              have hD0 := hD.put 1 (.int .i64 V1)
              have k0 := (blk_cell hK0 0).trans rfl
              have k1 := (blk_cell hK0 1).trans rfl
              have k2 := (blk_cell hK0 2).trans rfl
              have k3 := (blk_cell hK0 3).trans rfl
              have k4 := (blk_cell hK0 4).trans rfl
              have k5 := (blk_cell hK0 5).trans rfl
              have k6 := (blk_cell hK0 6).trans rfl
              have HD2 := Aside0.mk hD0
              have HK2 := Aside0.mk hK0
              clear hb hD hK hK0 hD0)
        have hev : EvOk _ V1 0 0 0 none 0 0 [] 0 := ⟨HD2.out.laid.laid, Kd.C_nil _ _, fun b h => absurd h (by simp), by decide, HV1R.out, ⟨by decide, by decide⟩, ⟨by decide, by decide⟩, ⟨by decide, by decide⟩, ⟨by decide, by decide⟩⟩
        have henc := encode_calls 7 V1 0 0 0 none 0 0 [] 0 _ hev
        clear hev
        unfold evV at henc
        refine henc.mono ?_
        rintro e w9 ⟨rfl, hb⟩
        have hD := HD2.out.next hb (blk_lt HK2.out)
        have hK := (hb.block _ (blk_lt HK2.out)).trans HK2.out
        have HD9 := Aside0.mk hD
        have HK9 := Aside0.mk hK
        have q0 := (blk_cell hK 0).trans rfl
        have q1 := (blk_cell hK 1).trans rfl
        have q2 := (blk_cell hK 2).trans rfl
        have q3 := (blk_cell hK 3).trans rfl
        have q4 := (blk_cell hK 4).trans rfl
        have q5 := (blk_cell hK 5).trans rfl
        have q6 := (blk_cell hK 6).trans rfl
        have b0 := (blk_cell hD.b0 0).trans rfl
        have b1 := (blk_cell hD.b0 1).trans rfl
        have b2 := (blk_cell hD.b0 2).trans rfl
        have b3 := (blk_cell hD.b0 3).trans rfl
        have b4 := (blk_cell hD.b0 4).trans rfl
        have b5 := (blk_cell hD.b0 5).trans rfl
        have b6 := (blk_cell hD.b0 6).trans rfl
        have z0 := blk_frozen hD.b0 0
        have z1 := blk_frozen hD.b0 1
        have z2 := blk_frozen hD.b0 2
        have z3 := blk_frozen hD.b0 3
        have z4 := blk_frozen hD.b0 4
        have z5 := blk_frozen hD.b0 5
        have z6 := blk_frozen hD.b0 6
        clear hb hD hK henc
        obtain ⟨E, hE⟩ : ∃ E, E = encP 7 V1 0 0 0 [] 0 := ⟨_, rfl⟩
        rw [← hE]
        obtain ⟨E1, E2⟩ := E
        have HE := Aside0.mk hE
        clear hE
        by_cases h2 : E2 = 0
        · by_cases h1 : E1 = s
          · subst h2
            subst h1
            have hss : ((ba E1).toList == (ba E1).toList) = true := by simp
            go_wp2_with fail
            refine bodyPost_ret (results_ct rfl _ _ w.heap.size 25 #[.int .i64 7, .int .i64 V1, .int .u32 0, .int .u32 0, .int .i64 0, .slice none 0 0, .int .i64 0] (0, 0) _ rfl (put7_blk HD9.out.b0 _ _ _ _ _ _ _) Tryz.underlying25 rfl (by kernel_rfl)) rfl ?_
            refine ⟨put7_below HD9.out.below (Nat.le_refl _) _ _ _ _ _ _ _, ?_⟩
            unfold DecR
            rw [HDP.out]
            show if encP 7 V1 0 0 0 [] 0 = (E1, 0) then _ else _
            rw [if_pos HE.out.symm]
            exact ⟨none, 0, 0, rfl, ⟨Kd.C_nil _ _, Nat.le_refl _⟩⟩
          · subst h2
            have hss : ((ba E1).toList == (ba s).toList) = false := by simp only [ba, ByteArray.toList_mk]; exact beq_eq_false_iff_ne.2 h1
            have H1 := Aside0.mk h1
            clear h1
            go_wp2_with fail
            refine bodyPost_ret (results_ct rfl _ _ w.heap.size 25 #[.int .i64 0, .int .i64 0, .int .u32 0, .int .u32 0, .int .i64 0, .slice none 0 0, .int .i64 0] (0, 0) _ rfl (put7_blk HD9.out.b0 _ _ _ _ _ _ _) Tryz.underlying25 rfl (by kernel_rfl)) rfl ?_
            refine ⟨put7_below HD9.out.below (Nat.le_refl _) _ _ _ _ _ _ _, ?_⟩
            unfold DecR
            rw [HDP.out]
            show if encP 7 V1 0 0 0 [] 0 = (s, 0) then _ else _
            rw [if_neg (by rw [← HE.out]; intro h; exact H1.out (congrArg Prod.fst h))]
            rfl
        · have hz : (E2 == 0) = false := beq_eq_false_iff_ne.2 h2
          have hz' : (E2 != 0) = true := by rw [bne, hz]; rfl
          have H2 := Aside0.mk h2
          clear h2
          go_wp2_with fail
          refine bodyPost_ret (results_ct rfl _ _ w.heap.size 25 #[.int .i64 0, .int .i64 0, .int .u32 0, .int .u32 0, .int .i64 0, .slice none 0 0, .int .i64 0] (0, 0) _ rfl (put7_blk HD9.out.b0 _ _ _ _ _ _ _) Tryz.underlying25 rfl (by kernel_rfl)) rfl ?_
          refine ⟨put7_below HD9.out.below (Nat.le_refl _) _ _ _ _ _ _ _, ?_⟩
          unfold DecR
          rw [HDP.out]
          show if encP 7 V1 0 0 0 [] 0 = (s, 0) then _ else _
          rw [if_neg (by rw [← HE.out]; intro h; exact H2.out (congrArg Prod.snd h))]
          rfl
      · -- kind 8
        have hdp : decP s = (8, atoiP p1, 0, 0, 0, [], atoiP p2) := by unfold decP; rw [← HWS.out, decW]; simp [hp1, hp2, hp3, hp4, HT.out, ← HTK.out]
        have hV1r := atoiP_range p1
        obtain ⟨V1, hV1⟩ : ∃ x, x = atoiP p1 := ⟨_, rfl⟩
        rw [← hV1] at hdp hl1 hV1r
        have HV1R := Aside0.mk hV1r
        clear hV1 hV1r
        have hV2r := atoiP_range p2
        obtain ⟨V2, hV2⟩ : ∃ x, x = atoiP p2 := ⟨_, rfl⟩
        rw [← hV2] at hdp hl2 hV2r
        have HV2R := Aside0.mk hV2r
        clear hV2 hV2r
        have HDP := Aside0.mk hdp
        clear hdp
        go_wp2_with (
          first
            | (with_reducible refine (hl1 _ HDA.out).mono ?_); rintro e w2 ⟨rfl, hb⟩
              have hD := HDA.out.next hb (blk_lt HKA.out)
              have hK := (hb.block _ (blk_lt HKA.out)).trans HKA.out
              have kf0 := blk_frozen hK 1
              have kc0 := (blk_cell hK 1).trans rfl
              have hK0 : (w2.setCell ⟨R + 1 + 1, 1, none⟩ (.int .i64 V1)).heap[R + 1 + 1]? = some (.cells #[.int .i64 8, .int .i64 V1, .int .u32 0, .int .u32 0, .int .i64 0, .slice none 0 0, .int .i64 0] 25 (0, 0)) := (blk_set hK 1 _).trans rfl
              have hD0 := hD.put 1 (.int .i64 V1)
              have k0 := (blk_cell hK0 0).trans rfl
              have HD2 := Aside0.mk hD0
              have HK2 := Aside0.mk hK0
              clear hb hD hK hK0 hD0
            | (with_reducible refine (hl2 _ HD2.out).mono ?_); rintro e w3 ⟨rfl, hb⟩
              have hD := HD2.out.next hb (blk_lt HK2.out)
              have hK := (hb.block _ (blk_lt HK2.out)).trans HK2.out
              have kf0 := blk_frozen hK 6
              have kc0 := (blk_cell hK 6).trans rfl
              have hK0 : (w3.setCell ⟨R + 1 + 1, 6, none⟩ (.int .i64 V2)).heap[R + 1 + 1]? = some (.cells #[.int .i64 8, .int .i64 V1, .int .u32 0, .int .u32 0, .int .i64 0, .slice none 0 0, .int .i64 V2] 25 (0, 0)) := (blk_set hK 6 _).trans rfl
              have hD0 := hD.put 6 (.int .i64 V2)
              have k0 := (blk_cell hK0 0).trans rfl
              have k1 := (blk_cell hK0 1).trans rfl
              have k2 := (blk_cell hK0 2).trans rfl
              have k3 := (blk_cell hK0 3).trans rfl
              have k4 := (blk_cell hK0 4).trans rfl
              have k5 := (blk_cell hK0 5).trans rfl
              have k6 := (blk_cell hK0 6).trans rfl
              have HD3 := Aside0.mk hD0
              have HK3 := Aside0.mk hK0
              clear hb hD hK hK0 hD0)
        have hev : EvOk _ V1 0 0 0 none 0 0 [] V2 := ⟨HD3.out.laid.laid, Kd.C_nil _ _, fun b h => absurd h (by simp), by decide, HV1R.out, ⟨by decide, by decide⟩, ⟨by decide, by decide⟩, ⟨by decide, by decide⟩, HV2R.out⟩
        have henc := encode_calls 8 V1 0 0 0 none 0 0 [] V2 _ hev
        clear hev
        unfold evV at henc
        refine henc.mono ?_
        rintro e w9 ⟨rfl, hb⟩
        have hD := HD3.out.next hb (blk_lt HK3.out)
        have hK := (hb.block _ (blk_lt HK3.out)).trans HK3.out
        have HD9 := Aside0.mk hD
        have HK9 := Aside0.mk hK
        have q0 := (blk_cell hK 0).trans rfl
        have q1 := (blk_cell hK 1).trans rfl
        have q2 := (blk_cell hK 2).trans rfl
        have q3 := (blk_cell hK 3).trans rfl
        have q4 := (blk_cell hK 4).trans rfl
        have q5 := (blk_cell hK 5).trans rfl
        have q6 := (blk_cell hK 6).trans rfl
        have b0 := (blk_cell hD.b0 0).trans rfl
        have b1 := (blk_cell hD.b0 1).trans rfl
        have b2 := (blk_cell hD.b0 2).trans rfl
        have b3 := (blk_cell hD.b0 3).trans rfl
        have b4 := (blk_cell hD.b0 4).trans rfl
        have b5 := (blk_cell hD.b0 5).trans rfl
        have b6 := (blk_cell hD.b0 6).trans rfl
        have z0 := blk_frozen hD.b0 0
        have z1 := blk_frozen hD.b0 1
        have z2 := blk_frozen hD.b0 2
        have z3 := blk_frozen hD.b0 3
        have z4 := blk_frozen hD.b0 4
        have z5 := blk_frozen hD.b0 5
        have z6 := blk_frozen hD.b0 6
        clear hb hD hK henc
        obtain ⟨E, hE⟩ : ∃ E, E = encP 8 V1 0 0 0 [] V2 := ⟨_, rfl⟩
        rw [← hE]
        obtain ⟨E1, E2⟩ := E
        have HE := Aside0.mk hE
        clear hE
        by_cases h2 : E2 = 0
        · by_cases h1 : E1 = s
          · subst h2
            subst h1
            have hss : ((ba E1).toList == (ba E1).toList) = true := by simp
            go_wp2_with fail
            refine bodyPost_ret (results_ct rfl _ _ w.heap.size 25 #[.int .i64 8, .int .i64 V1, .int .u32 0, .int .u32 0, .int .i64 0, .slice none 0 0, .int .i64 V2] (0, 0) _ rfl (put7_blk HD9.out.b0 _ _ _ _ _ _ _) Tryz.underlying25 rfl (by kernel_rfl)) rfl ?_
            refine ⟨put7_below HD9.out.below (Nat.le_refl _) _ _ _ _ _ _ _, ?_⟩
            unfold DecR
            rw [HDP.out]
            show if encP 8 V1 0 0 0 [] V2 = (E1, 0) then _ else _
            rw [if_pos HE.out.symm]
            exact ⟨none, 0, 0, rfl, ⟨Kd.C_nil _ _, Nat.le_refl _⟩⟩
          · subst h2
            have hss : ((ba E1).toList == (ba s).toList) = false := by simp only [ba, ByteArray.toList_mk]; exact beq_eq_false_iff_ne.2 h1
            have H1 := Aside0.mk h1
            clear h1
            go_wp2_with fail
            refine bodyPost_ret (results_ct rfl _ _ w.heap.size 25 #[.int .i64 0, .int .i64 0, .int .u32 0, .int .u32 0, .int .i64 0, .slice none 0 0, .int .i64 0] (0, 0) _ rfl (put7_blk HD9.out.b0 _ _ _ _ _ _ _) Tryz.underlying25 rfl (by kernel_rfl)) rfl ?_
            refine ⟨put7_below HD9.out.below (Nat.le_refl _) _ _ _ _ _ _ _, ?_⟩
            unfold DecR
            rw [HDP.out]
            show if encP 8 V1 0 0 0 [] V2 = (s, 0) then _ else _
            rw [if_neg (by rw [← HE.out]; intro h; exact H1.out (congrArg Prod.fst h))]
            rfl
        · have hz : (E2 == 0) = false := beq_eq_false_iff_ne.2 h2
          have hz' : (E2 != 0) = true := by rw [bne, hz]; rfl
          have H2 := Aside0.mk h2
          clear h2
          go_wp2_with fail
          refine bodyPost_ret (results_ct rfl _ _ w.heap.size 25 #[.int .i64 0, .int .i64 0, .int .u32 0, .int .u32 0, .int .i64 0, .slice none 0 0, .int .i64 0] (0, 0) _ rfl (put7_blk HD9.out.b0 _ _ _ _ _ _ _) Tryz.underlying25 rfl (by kernel_rfl)) rfl ?_
          refine ⟨put7_below HD9.out.below (Nat.le_refl _) _ _ _ _ _ _ _, ?_⟩
          unfold DecR
          rw [HDP.out]
          show if encP 8 V1 0 0 0 [] V2 = (s, 0) then _ else _
          rw [if_neg (by rw [← HE.out]; intro h; exact H2.out (congrArg Prod.snd h))]
          rfl
end Go.Proofs.YtdndmbcejoodpaaGreatDoor
