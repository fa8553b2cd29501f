/-
  What is told of the library's functions at this program: the text of a state (strconv.AppendInt), slices.SortFunc.
-/
import Derived.Test.YtjelffbnkmbgaaaDoorProg
import Derived.Test.YtjelffbnkmbgaaaDoorRows
import Derived.KernelRfl
import Derived.Test.YtjelffbnkmbgaaaDoorB3
import Derived.Test.YtjelffbnkmbgaaaDoorB6
import Derived.Shelf.Strconv.AppendIntPublic10
import Derived.Shelf.SlSortCmp.NoneTotal
import Derived.Lib.AppendIntMem
import Derived.Lib.ItoaLen
import Derived.Lib.Slices
import Derived.Lib.Hide
import Derived.Laws.IdiomStrings
import Derived.OwnWalk
import Derived.WalkKit
import Derived.BigCall
import Derived.LoopTactic
import Derived.Lib.BufferRead
import Derived.Stop.LaidErr
set_option linter.unusedSimpArgs false
set_option linter.unusedVariables false
set_option linter.unnecessarySimpa false
namespace Go.Proofs.YtjelffbnkmbgaaaDoor
open Go.Shelf Go.RowKit Go.Eng
def layA_ren : Go.Shelf.Ren := ⟨fun | 176 => 52 | 249 => 69 | 288 => 78 | 283 => 80 | 284 => 81 | 285 => 82 | 286 => 83 | 129 => 65 | 317 => 84 | 318 => 85 | 319 => 86 | 320 => 87 | 337 => 88 | 338 => 89 | n => n, fun | 37 => 95 | 2 => 2 | 3 => 3 | 53 => 108 | 4 => 4 | 9 => 9 | 171 => 124 | 0 => 0 | 173 => 126 | 212 => 130 | 51 => 106 | 5 => 5 | 20 => 20 | 213 => 131 | 46 => 59 | 232 => 132 | 233 => 133 | n => n, fun | 17 => 0 | 18 => 1 | 19 => 2 | n => n⟩
theorem layA : Go.Proofs.LaysM.n176 Tryd.prog layA_ren := {
  mixed := by kernel_rfl
  f129 := Tryd.func65.trans (congrArg some (by kernel_rfl))
  f176 := Tryd.func52.trans (congrArg some (by kernel_rfl))
  f249 := Tryd.func69.trans (congrArg some (by kernel_rfl))
  f283 := Tryd.func80.trans (congrArg some (by kernel_rfl))
  f284 := Tryd.func81.trans (congrArg some (by kernel_rfl))
  f285 := Tryd.func82.trans (congrArg some (by kernel_rfl))
  f286 := Tryd.func83.trans (congrArg some (by kernel_rfl))
  f288 := Tryd.func78.trans (congrArg some (by kernel_rfl))
  f317 := Tryd.func84.trans (congrArg some (by kernel_rfl))
  f318 := Tryd.func85.trans (congrArg some (by kernel_rfl))
  f319 := Tryd.func86.trans (congrArg some (by kernel_rfl))
  f320 := Tryd.func87.trans (congrArg some (by kernel_rfl))
  f337 := Tryd.func88.trans (congrArg some (by kernel_rfl))
  f338 := Tryd.func89.trans (congrArg some (by kernel_rfl))
  t0 := Tryd.underlying0
  a0 := Tryd.isAgg0
  z0 := Tryd.sizeOf0
  v0 := Tryd.zeroValue0
  t2 := Tryd.underlying2
  a2 := Tryd.isAgg2
  z2 := Tryd.sizeOf2
  v2 := Tryd.zeroValue2
  t3 := Tryd.underlying3
  a3 := Tryd.isAgg3
  z3 := Tryd.sizeOf3
  v3 := Tryd.zeroValue3
  t4 := Tryd.underlying4
  a4 := Tryd.isAgg4
  z4 := Tryd.sizeOf4
  v4 := Tryd.zeroValue4
  t5 := Tryd.underlying5
  a5 := Tryd.isAgg5
  z5 := Tryd.sizeOf5
  v5 := Tryd.zeroValue5
  t9 := Tryd.underlying9
  a9 := Tryd.isAgg9
  z9 := Tryd.sizeOf9
  v9 := Tryd.zeroValue9
  t20 := Tryd.underlying20
  a20 := Tryd.isAgg20
  z20 := Tryd.sizeOf20
  v20 := Tryd.zeroValue20
  t37 := Tryd.underlying95
  a37 := Tryd.isAgg95
  z37 := Tryd.sizeOf95
  v37 := Tryd.zeroValue95
  t46 := Tryd.underlying59
  a46 := Tryd.isAgg59
  z46 := Tryd.sizeOf59
  v46 := Tryd.zeroValue59
  t51 := Tryd.underlying106
  a51 := Tryd.isAgg106
  z51 := Tryd.sizeOf106
  v51 := Tryd.zeroValue106
  t53 := Tryd.underlying108
  a53 := Tryd.isAgg108
  z53 := Tryd.sizeOf108
  v53 := Tryd.zeroValue108
  t171 := Tryd.underlying124
  a171 := Tryd.isAgg124
  z171 := Tryd.sizeOf124
  v171 := Tryd.zeroValue124
  t173 := Tryd.underlying126
  a173 := Tryd.isAgg126
  z173 := Tryd.sizeOf126
  v173 := Tryd.zeroValue126
  t212 := Tryd.underlying130
  a212 := Tryd.isAgg130
  z212 := Tryd.sizeOf130
  v212 := Tryd.zeroValue130
  t213 := Tryd.underlying131
  a213 := Tryd.isAgg131
  z213 := Tryd.sizeOf131
  t232 := Tryd.underlying132
  a232 := Tryd.isAgg132
  z232 := Tryd.sizeOf132
  v232 := Tryd.zeroValue132
  t233 := Tryd.underlying133
  a233 := Tryd.isAgg133
  z233 := Tryd.sizeOf133
  v233 := Tryd.zeroValue133
  g17 := by kernel_rfl
  g18 := by kernel_rfl
  g19 := by kernel_rfl
  i0 := by kernel_rfl
  i2 := by kernel_rfl
  i3 := by kernel_rfl
  i4 := by kernel_rfl
  i5 := by kernel_rfl
  i9 := by kernel_rfl
  i20 := by kernel_rfl
  i37 := by kernel_rfl
  i46 := by kernel_rfl
  i51 := by kernel_rfl
  i53 := by kernel_rfl
  i171 := by kernel_rfl
  i173 := by kernel_rfl
  i212 := by kernel_rfl
  i232 := by kernel_rfl
  i233 := by kernel_rfl
  m17 := by kernel_rfl
  m18 := by kernel_rfl
  m19 := by kernel_rfl }
def layS_ren : Go.Shelf.Ren := ⟨fun | 6 => 29 | 15 => 48 | 14 => 47 | 28 => 64 | 29 => 65 | 20 => 56 | 21 => 57 | 22 => 58 | 23 => 59 | 24 => 60 | 25 => 61 | 26 => 62 | 27 => 63 | 46 => 71 | 47 => 72 | 48 => 73 | 49 => 74 | 50 => 75 | 57 => 79 | n => n, fun | 22 => 35 | 24 => 41 | 25 => 75 | 3 => 3 | 39 => 59 | 0 => 0 | 53 => 106 | 55 => 108 | 4 => 4 | 46 => 100 | 45 => 99 | 50 => 80 | 5 => 5 | 9 => 9 | 66 => 112 | 70 => 116 | 76 => 120 | 77 => 121 | n => n, fun | n => n⟩
theorem layS : Go.Proofs.SlLaysF0.n6 Tryd.prog layS_ren := {
  mixed := by kernel_rfl
  f6 := ⟨Tryd.f29.name, by decide, Tryd.func29.trans (congrArg some (by kernel_rfl))⟩
  f14 := ⟨Tryd.f47.name, by decide, Tryd.func47.trans (congrArg some (by kernel_rfl))⟩
  f15 := Tryd.func48.trans (congrArg some (by kernel_rfl))
  f20 := ⟨Tryd.f56.name, by decide, Tryd.func56.trans (congrArg some (by kernel_rfl))⟩
  f21 := ⟨Tryd.f57.name, by decide, Tryd.func57.trans (congrArg some (by kernel_rfl))⟩
  f22 := ⟨Tryd.f58.name, by decide, Tryd.func58.trans (congrArg some (by kernel_rfl))⟩
  f23 := ⟨Tryd.f59.name, by decide, Tryd.func59.trans (congrArg some (by kernel_rfl))⟩
  f24 := ⟨Tryd.f60.name, by decide, Tryd.func60.trans (congrArg some (by kernel_rfl))⟩
  f25 := ⟨Tryd.f61.name, by decide, Tryd.func61.trans (congrArg some (by kernel_rfl))⟩
  f26 := ⟨Tryd.f62.name, by decide, Tryd.func62.trans (congrArg some (by kernel_rfl))⟩
  f27 := ⟨Tryd.f63.name, by decide, Tryd.func63.trans (congrArg some (by kernel_rfl))⟩
  f28 := Tryd.func64.trans (congrArg some (by kernel_rfl))
  f29 := Tryd.func65.trans (congrArg some (by kernel_rfl))
  f46 := ⟨Tryd.f71.name, by decide, Tryd.func71.trans (congrArg some (by kernel_rfl))⟩
  f47 := Tryd.func72.trans (congrArg some (by kernel_rfl))
  f48 := Tryd.func73.trans (congrArg some (by kernel_rfl))
  f49 := ⟨Tryd.f74.name, by decide, Tryd.func74.trans (congrArg some (by kernel_rfl))⟩
  f50 := ⟨Tryd.f75.name, by decide, Tryd.func75.trans (congrArg some (by kernel_rfl))⟩
  f57 := ⟨Tryd.f79.name, by decide, Tryd.func79.trans (congrArg some (by kernel_rfl))⟩
  t0 := Tryd.underlying0
  a0 := Tryd.isAgg0
  z0 := Tryd.sizeOf0
  v0 := Tryd.zeroValue0
  t3 := Tryd.underlying3
  a3 := Tryd.isAgg3
  z3 := Tryd.sizeOf3
  v3 := Tryd.zeroValue3
  t4 := Tryd.underlying4
  a4 := Tryd.isAgg4
  z4 := Tryd.sizeOf4
  v4 := Tryd.zeroValue4
  t5 := Tryd.underlying5
  a5 := Tryd.isAgg5
  z5 := Tryd.sizeOf5
  v5 := Tryd.zeroValue5
  t9 := Tryd.underlying9
  a9 := Tryd.isAgg9
  z9 := Tryd.sizeOf9
  v9 := Tryd.zeroValue9
  t22 := Tryd.underlying35
  a22 := Tryd.isAgg35
  z22 := Tryd.sizeOf35
  v22 := Tryd.zeroValue35
  t25 := Tryd.underlying75
  a25 := Tryd.isAgg75
  z25 := Tryd.sizeOf75
  v25 := Tryd.zeroValue75
  t39 := Tryd.underlying59
  a39 := Tryd.isAgg59
  z39 := Tryd.sizeOf59
  v39 := Tryd.zeroValue59
  t45 := Tryd.underlying99
  a45 := Tryd.isAgg99
  z45 := Tryd.sizeOf99
  v45 := Tryd.zeroValue99
  t46 := Tryd.underlying100
  a46 := Tryd.isAgg100
  z46 := Tryd.sizeOf100
  v46 := Tryd.zeroValue100
  t50 := Tryd.underlying80
  a50 := Tryd.isAgg80
  z50 := Tryd.sizeOf80
  v50 := Tryd.zeroValue80
  t53 := Tryd.underlying106
  a53 := Tryd.isAgg106
  z53 := Tryd.sizeOf106
  v53 := Tryd.zeroValue106
  t55 := Tryd.underlying108
  a55 := Tryd.isAgg108
  z55 := Tryd.sizeOf108
  v55 := Tryd.zeroValue108
  t66 := Tryd.underlying112
  a66 := Tryd.isAgg112
  z66 := Tryd.sizeOf112
  v66 := Tryd.zeroValue112
  t70 := Tryd.underlying116
  a70 := Tryd.isAgg116
  z70 := Tryd.sizeOf116
  v70 := Tryd.zeroValue116
  t76 := Tryd.underlying120
  a76 := Tryd.isAgg120
  z76 := Tryd.sizeOf120
  v76 := Tryd.zeroValue120
  t77 := Tryd.underlying121
  a77 := Tryd.isAgg121
  z77 := Tryd.sizeOf121
  v77 := Tryd.zeroValue121 }
theorem sortsAt : SortsAt Tryd.prog 29 2 := by
  refine ⟨enters_of Tryd.func29 (by kernel_rfl) rfl, fun p cap fv w => AnyF.slices_SortFunc_none { layS with } p cap fv w, fun N enc hk h1 cf hO g blk off cap d w eg hcmp hH hblk hsz hT => ?_⟩
  exact AnyQ.slices_SortFunc_total layS 2 Tryd.isAgg41 Tryd.sizeOf41 enc hk h1 cf hO g #[] blk off cap d w eg hcmp hH hblk hsz hT
theorem infoByte : (Tryd.prog.info? 5).map (fun i => (i.zero, i.size, i.bytes)) = some (some (.int .u8 0), 1, 1) := by kernel_rfl
abbrev tabN : String := (Rows.limitcycleIsClosedRow.named.head?).getD default
set_option maxHeartbeats 6400000 in
set_option maxRecDepth 100000 in
theorem key_any (W0 : World) (xa : Option Addr) (xb xo len cap : Nat) (s : List Int) (hls : s.length = len) (hxa : 0 < len → xa = some ⟨xb, xo, none⟩) (hcell : ∀ i v, s[i]? = some v → W0.cell? ⟨xb, xo + i, none⟩ = some (.int .i64 v))
    (hrng : ∀ v ∈ s, InI v) (hlen : len ≤ 64) (hT : Lib.TabBelow Tryd.prog W0.heap.size W0 tabN .u64 Lib.pow10Tab) :
    Calls Tryd.prog 34 #[.slice xa len cap] W0 fun e w' => e = .returned (.string ⟨(keyL s).toArray⟩) ∧ Below W0.heap.size W0 w' := by
  obtain ⟨i0, hi, hz0, hz1, hz2⟩ := info_parts infoByte
  have hA : ∀ (n : Nat) (i : Int) (h0 : -9223372036854775808 ≤ i) (h1 : i ≤ 9223372036854775807) (sv : Value) (xs : List Value) (w : World), w.ownsRow W0.heap.size 5 1 sv n xs → W0.heap.size ≤ w.heap.size → n + 21 ≤ 140737488355328 → Lib.TabBelow Tryd.prog W0.heap.size w tabN .u64 Lib.pow10Tab →
      Calls Tryd.prog 52 #[sv, .int .i64 i, .int .i64 10] w fun e w' => ∃ v', e = .returned v' ∧ w'.ownsRow W0.heap.size 5 1 v' (n + (Lib.itoa i).length) (xs ++ Lib.byteCells (Lib.itoa i)) ∧ Below W0.heap.size w w' ∧ Lib.OthersKept 5 none w w' :=
    fun n i h0 h1 sv xs w a b c d => Any.strconv_AppendInt_10 layA W0.heap.size n i h0 h1 sv xs w a b c d
  have HC : Hid (∀ i v, s[i]? = some v → W0.cell? ⟨xb, xo + i, none⟩ = some (.int .i64 v)) := hcell
  have HR : Hid (∀ v ∈ s, InI v) := hrng
  have HA := Lib.hid hA
  have HT := Lib.hid hT
  have HL : Hid (s.length = len) := hls
  have hxb : 0 < len → xb < W0.heap.size := fun h => by
    have := hcell 0 _ (List.getElem?_eq_getElem (by omega))
    exact cell_lt this
  clear hcell hrng hA hT hls
  go_enter Tryd.func34, Tryd.ntmps34
  go_wp2
  go_loopw [3, 8] (fun v i wl => ∃ k : Nat, k ≤ len ∧ i = .int .i64 k ∧ wl.ownsRow W0.heap.size 5 1 v (keyL (s.take k)).length (Lib.byteCells (keyL (s.take k))) ∧ Below W0.heap.size W0 wl)
    (fun _ i _ => len - (intOf i).toNat)
  case atStart => exact ⟨0, Nat.zero_le _, rfl, World.ownsRow_nil _ _ _ _, Below.refl _ _⟩
  case round =>
    obtain ⟨k, hk, rfl, hown, hnx⟩ := hrel
    have hkl : (keyL (s.take k)).length ≤ 22 * k := by
      have := keyL_len (s.take k) fun x hx => HR.out x (List.mem_of_mem_take hx)
      rw [List.length_take] at this
      omega
    by_cases hlt : k < len
    · have e := hxa (by omega)
      subst e
      obtain ⟨z, hz⟩ : ∃ z, s[k]? = some z := ⟨_, List.getElem?_eq_getElem (by have := HL.out; omega)⟩
      have hck : wr.cell? ⟨xb, xo + k, none⟩ = some (.int .i64 z) := (hnx.cell (hxb (by omega))).trans (HC.out k z hz)
      have hzr := HR.out z (List.mem_of_getElem? hz)
      have hz0' := hzr.1
      have hz1' := hzr.2
      have hil := Lib.itoa_length_le z hz0' hz1'
      have hsz := hnx.size
      have HZ : Hid (keyL (s.take (k + 1)) = keyL (s.take k) ++ (Lib.itoa z ++ [32])) := by
        show _ = _
        rw [List.take_add_one, hz]
        exact keyL_snoc _ _
      have hTw := HT.out.on hnx
      have HTw := Lib.hid hTw
      clear hxa hz hzr hTw
      obtain ⟨pre, hpre⟩ : ∃ pre, pre = keyL (s.take k) := ⟨_, rfl⟩
      rw [← hpre] at hown hkl
      have HP := Lib.hid hpre
      clear hpre
      go_wp2_with (go_at_call 52; refine (HA.out pre.length z hz0' hz1' u3 _ wr hown (by omega) (by omega) HTw.out).mono ?_; rintro e w1 ⟨v1, rfl, hown1, hnx1, -⟩; refine Hid.out ?_)
      refine Lib.hid ?_
      have hnx1' : Below W0.heap.size W0 w1 := hnx.trans hnx1
      clear hown hck HTw
      go_wp2_with (at_builtin; refine wpList_append_own _ rfl _ _ 95 rfl W0.heap.size 5 i0 (.int .u8 0) 1 1 Tryd.underlying95 hi hz0 hz1 hz2 rfl (by decide) _ _ _ rfl (hown1.alloc _) ⟨w1.heap.size, 0, none⟩ 1 1 [Value.int .u8 32] rfl rfl (by intro j u' hj; match j, hj with | 0, hj => simp at hj; subst hj; simp [Addr.add]) (by intro u' hu'; simp at hu'; subst hu'; rfl) (by unfold maxLen; omega) (by omega) (by have := hnx1'.size; simp; omega) ?_)
      intro v2 w2 hown2 hgrow _
      have hnx2 : Below W0.heap.size W0 w2 := (hnx1'.alloc (by have := hnx1'.size; omega) _).grown hgrow (by have := hnx1'.size; simp; omega) (fun k hk => (hown1.lt k hk).1)
      have eL : Lib.byteCells pre ++ (Lib.byteCells (Lib.itoa z) ++ [Value.int .u8 32]) = Lib.byteCells (keyL (s.take (k + 1))) := by
        rw [HZ.out, ← HP.out]
        simp [Lib.byteCells]
      have eN : pre.length + (Lib.itoa z).length + 1 = (keyL (s.take (k + 1))).length := by
        rw [HZ.out, ← HP.out]
        simp; omega
      rw [eL, eN] at hown2
      clear eL eN hown1 hgrow
      go_wp2
      go_roundw
      case rel => exact ⟨k + 1, by omega, by go_num, hown2, hnx2⟩
      case measure => simp [intOf]; omega
    · have hkn : k = len := by omega
      subst hkn
      rw [List.take_of_length_le (by have := HL.out; omega)] at hown
      obtain ⟨l, hl⟩ : ∃ l, l = keyL s := ⟨_, rfl⟩
      rw [← hl] at hown
      have HLL := Lib.hid hl
      clear hl
      rcases hown.2 with ⟨rfl, h0⟩ | ⟨g, cap', cur, rfl, -, -, -, -, -, -⟩
      · have hcv := Lib.run_convert_nil_bytes (P := Tryd.prog) wr 95 9 5 0 Tryd.underlying95 Tryd.underlying5 Tryd.underlying9
        have hl0 : l = [] := List.eq_nil_of_length_eq_zero h0
        have HL0 := Lib.hid hl0
        clear hl0 h0
        go_wp2
        go_ret
        have hl := HLL.out
        have hl0 := HL0.out
        rw [← hl, hl0]
        exact ⟨rfl, hnx⟩
      · have hcv := run_convert_bytes_back (P := Tryd.prog) wr 95 9 5 ⟨g, 0, none⟩ cap' l Tryd.underlying95 Tryd.underlying5 Tryd.underlying9 (fun j hj => hown.cells (g := g) rfl j _ (by simp [Lib.byteCells, hj]))
        go_wp2
        go_ret
        have hl := HLL.out
        subst hl
        exact ⟨rfl, hnx⟩
/-- worlds that keep the table -/
def keepT (b : Nat) : Keep := ⟨b, fun w => b ≤ w.heap.size ∧ Lib.TabBelow Tryd.prog b w tabN .u64 Lib.pow10Tab, False, fun _ h => h.1, fun _ _ h hb => ⟨Nat.le_trans h.1 hb.size, h.2.on hb⟩⟩
theorem keyAt (b : Nat) : KeyAt Tryd.prog 34 (keepT b) := by
  refine ⟨enters_of Tryd.func34 (by kernel_rfl) rfl, fun W xa xb xo cap s hw h1 h2 h3 => ?_⟩
  exact key_any W xa xb xo s.length cap s rfl h1 h2 h3.rng h3.len fun w' hb => hw.2 w' (hb.mono hw.1)
theorem tab_of {w : World} (hL : laidMet Tryd.prog Rows.limitcycleIsClosedRow.laid w) : (keepT w.heap.size).ok w := by
  refine ⟨Nat.le_refl _, Lib.tabBelow_of_tabIs ?_⟩
  exact Lib.tabIs_of_head (g := 0) (t := 130) (e := 108) (n := 20) (by kernel_rfl) (by kernel_rfl) Tryd.underlying130 Tryd.underlying108 (by kernel_rfl) (by kernel_rfl) (laidMet.tail (laidMet.tail (hL)))
end Go.Proofs.YtjelffbnkmbgaaaDoor

