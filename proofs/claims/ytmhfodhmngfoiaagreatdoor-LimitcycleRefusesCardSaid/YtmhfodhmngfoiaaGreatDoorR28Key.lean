/-
  What is told of the library's functions at this program: the text of a state (strconv.AppendInt), slices.SortFunc.
-/
import Derived.Test.YtmhfodhmngfoiaaGreatDoorProg
import Derived.Test.YtmhfodhmngfoiaaGreatDoorRows
import Derived.KernelRfl
import Derived.Test.YtmhfodhmngfoiaaGreatDoorB3
import Derived.Test.YtmhfodhmngfoiaaGreatDoorB5
import Derived.Shelf.Strconv.AppendIntPublic10
import Derived.Shelf.SlSortCmp.NoneTotal
import Derived.Lib.AppendIntMem
import Derived.Lib.ItoaLen
import Derived.Lib.Slices
import Derived.Lib.Hide
import Derived.Laws.IdiomStrings
import Derived.OwnWalk
import Derived.WalkKit
import Derived.BigCall
import Derived.LoopTactic
import Derived.Lib.BufferRead
import Derived.Stop.LaidErr
set_option linter.unusedSimpArgs false
set_option linter.unusedVariables false
set_option linter.unnecessarySimpa false
namespace Go.Proofs.YtmhfodhmngfoiaaGreatDoor
open Go.Shelf Go.RowKit Go.e9
def Alk : Go.Shelf.Ren := ⟨fun | 176 => 109 | 249 => 168 | 288 => 206 | 283 => 219 | 284 => 220 | 285 => 221 | 286 => 222 | 129 => 163 | 317 => 227 | 318 => 228 | 319 => 229 | 320 => 230 | 337 => 231 | 338 => 232 | n => n, fun | 37 => 155 | 2 => 2 | 3 => 3 | 53 => 165 | 4 => 4 | 9 => 9 | 171 => 240 | 0 => 0 | 173 => 242 | 212 => 251 | 51 => 129 | 5 => 5 | 20 => 20 | 213 => 252 | 46 => 67 | 232 => 253 | 233 => 254 | n => n, fun | 17 => 0 | 18 => 1 | 19 => 2 | n => n⟩
theorem Alj : Go.Proofs.LaysM.n176 Tryz.prog Alk := {
  mixed := by kernel_rfl
  f129 := Tryz.func163.trans (congrArg some (by kernel_rfl))
  f176 := Tryz.func109.trans (congrArg some (by kernel_rfl))
  f249 := Tryz.func168.trans (congrArg some (by kernel_rfl))
  f283 := Tryz.func219.trans (congrArg some (by kernel_rfl))
  f284 := Tryz.func220.trans (congrArg some (by kernel_rfl))
  f285 := Tryz.func221.trans (congrArg some (by kernel_rfl))
  f286 := Tryz.func222.trans (congrArg some (by kernel_rfl))
  f288 := Tryz.func206.trans (congrArg some (by kernel_rfl))
  f317 := Tryz.func227.trans (congrArg some (by kernel_rfl))
  f318 := Tryz.func228.trans (congrArg some (by kernel_rfl))
  f319 := Tryz.func229.trans (congrArg some (by kernel_rfl))
  f320 := Tryz.func230.trans (congrArg some (by kernel_rfl))
  f337 := Tryz.func231.trans (congrArg some (by kernel_rfl))
  f338 := Tryz.func232.trans (congrArg some (by kernel_rfl))
  t0 := Tryz.underlying0
  a0 := Tryz.isAgg0
  z0 := Tryz.sizeOf0
  v0 := Tryz.zeroValue0
  t2 := Tryz.underlying2
  a2 := Tryz.isAgg2
  z2 := Tryz.sizeOf2
  v2 := Tryz.zeroValue2
  t3 := Tryz.underlying3
  a3 := Tryz.isAgg3
  z3 := Tryz.sizeOf3
  v3 := Tryz.zeroValue3
  t4 := Tryz.underlying4
  a4 := Tryz.isAgg4
  z4 := Tryz.sizeOf4
  v4 := Tryz.zeroValue4
  t5 := Tryz.underlying5
  a5 := Tryz.isAgg5
  z5 := Tryz.sizeOf5
  v5 := Tryz.zeroValue5
  t9 := Tryz.underlying9
  a9 := Tryz.isAgg9
  z9 := Tryz.sizeOf9
  v9 := Tryz.zeroValue9
  t20 := Tryz.underlying20
  a20 := Tryz.isAgg20
  z20 := Tryz.sizeOf20
  v20 := Tryz.zeroValue20
  t37 := Tryz.underlying155
  a37 := Tryz.isAgg155
  z37 := Tryz.sizeOf155
  v37 := Tryz.zeroValue155
  t46 := Tryz.underlying67
  a46 := Tryz.isAgg67
  z46 := Tryz.sizeOf67
  v46 := Tryz.zeroValue67
  t51 := Tryz.underlying129
  a51 := Tryz.isAgg129
  z51 := Tryz.sizeOf129
  v51 := Tryz.zeroValue129
  t53 := Tryz.underlying165
  a53 := Tryz.isAgg165
  z53 := Tryz.sizeOf165
  v53 := Tryz.zeroValue165
  t171 := Tryz.underlying240
  a171 := Tryz.isAgg240
  z171 := Tryz.sizeOf240
  v171 := Tryz.zeroValue240
  t173 := Tryz.underlying242
  a173 := Tryz.isAgg242
  z173 := Tryz.sizeOf242
  v173 := Tryz.zeroValue242
  t212 := Tryz.underlying251
  a212 := Tryz.isAgg251
  z212 := Tryz.sizeOf251
  v212 := Tryz.zeroValue251
  t213 := Tryz.underlying252
  a213 := Tryz.isAgg252
  z213 := Tryz.sizeOf252
  t232 := Tryz.underlying253
  a232 := Tryz.isAgg253
  z232 := Tryz.sizeOf253
  v232 := Tryz.zeroValue253
  t233 := Tryz.underlying254
  a233 := Tryz.isAgg254
  z233 := Tryz.sizeOf254
  v233 := Tryz.zeroValue254
  g17 := by kernel_rfl
  g18 := by kernel_rfl
  g19 := by kernel_rfl
  i0 := by kernel_rfl
  i2 := by kernel_rfl
  i3 := by kernel_rfl
  i4 := by kernel_rfl
  i5 := by kernel_rfl
  i9 := by kernel_rfl
  i20 := by kernel_rfl
  i37 := by kernel_rfl
  i46 := by kernel_rfl
  i51 := by kernel_rfl
  i53 := by kernel_rfl
  i171 := by kernel_rfl
  i173 := by kernel_rfl
  i212 := by kernel_rfl
  i232 := by kernel_rfl
  i233 := by kernel_rfl
  m17 := by kernel_rfl
  m18 := by kernel_rfl
  m19 := by kernel_rfl }
def All : Go.Shelf.Ren := ⟨fun | 6 => 44 | 15 => 105 | 14 => 104 | 28 => 162 | 29 => 163 | 20 => 154 | 21 => 155 | 22 => 156 | 23 => 157 | 24 => 158 | 25 => 159 | 26 => 160 | 27 => 161 | 46 => 199 | 47 => 200 | 48 => 201 | 49 => 202 | 50 => 203 | 57 => 218 | n => n, fun | 22 => 36 | 24 => 41 | 25 => 100 | 3 => 3 | 39 => 67 | 0 => 0 | 53 => 129 | 55 => 165 | 4 => 4 | 46 => 204 | 45 => 203 | 50 => 90 | 5 => 5 | 9 => 9 | 66 => 222 | 70 => 226 | 76 => 236 | 77 => 237 | n => n, fun | n => n⟩
theorem Vs : Go.Proofs.SlLaysF0.n6 Tryz.prog All := {
  mixed := by kernel_rfl
  f6 := ⟨Tryz.f44.name, by decide, Tryz.func44.trans (congrArg some (by kernel_rfl))⟩
  f14 := ⟨Tryz.f104.name, by decide, Tryz.func104.trans (congrArg some (by kernel_rfl))⟩
  f15 := Tryz.func105.trans (congrArg some (by kernel_rfl))
  f20 := ⟨Tryz.f154.name, by decide, Tryz.func154.trans (congrArg some (by kernel_rfl))⟩
  f21 := ⟨Tryz.f155.name, by decide, Tryz.func155.trans (congrArg some (by kernel_rfl))⟩
  f22 := ⟨Tryz.f156.name, by decide, Tryz.func156.trans (congrArg some (by kernel_rfl))⟩
  f23 := ⟨Tryz.f157.name, by decide, Tryz.func157.trans (congrArg some (by kernel_rfl))⟩
  f24 := ⟨Tryz.f158.name, by decide, Tryz.func158.trans (congrArg some (by kernel_rfl))⟩
  f25 := ⟨Tryz.f159.name, by decide, Tryz.func159.trans (congrArg some (by kernel_rfl))⟩
  f26 := ⟨Tryz.f160.name, by decide, Tryz.func160.trans (congrArg some (by kernel_rfl))⟩
  f27 := ⟨Tryz.f161.name, by decide, Tryz.func161.trans (congrArg some (by kernel_rfl))⟩
  f28 := Tryz.func162.trans (congrArg some (by kernel_rfl))
  f29 := Tryz.func163.trans (congrArg some (by kernel_rfl))
  f46 := ⟨Tryz.f199.name, by decide, Tryz.func199.trans (congrArg some (by kernel_rfl))⟩
  f47 := Tryz.func200.trans (congrArg some (by kernel_rfl))
  f48 := Tryz.func201.trans (congrArg some (by kernel_rfl))
  f49 := ⟨Tryz.f202.name, by decide, Tryz.func202.trans (congrArg some (by kernel_rfl))⟩
  f50 := ⟨Tryz.f203.name, by decide, Tryz.func203.trans (congrArg some (by kernel_rfl))⟩
  f57 := ⟨Tryz.f218.name, by decide, Tryz.func218.trans (congrArg some (by kernel_rfl))⟩
  t0 := Tryz.underlying0
  a0 := Tryz.isAgg0
  z0 := Tryz.sizeOf0
  v0 := Tryz.zeroValue0
  t3 := Tryz.underlying3
  a3 := Tryz.isAgg3
  z3 := Tryz.sizeOf3
  v3 := Tryz.zeroValue3
  t4 := Tryz.underlying4
  a4 := Tryz.isAgg4
  z4 := Tryz.sizeOf4
  v4 := Tryz.zeroValue4
  t5 := Tryz.underlying5
  a5 := Tryz.isAgg5
  z5 := Tryz.sizeOf5
  v5 := Tryz.zeroValue5
  t9 := Tryz.underlying9
  a9 := Tryz.isAgg9
  z9 := Tryz.sizeOf9
  v9 := Tryz.zeroValue9
  t22 := Tryz.underlying36
  a22 := Tryz.isAgg36
  z22 := Tryz.sizeOf36
  v22 := Tryz.zeroValue36
  t25 := Tryz.underlying100
  a25 := Tryz.isAgg100
  z25 := Tryz.sizeOf100
  v25 := Tryz.zeroValue100
  t39 := Tryz.underlying67
  a39 := Tryz.isAgg67
  z39 := Tryz.sizeOf67
  v39 := Tryz.zeroValue67
  t45 := Tryz.underlying203
  a45 := Tryz.isAgg203
  z45 := Tryz.sizeOf203
  v45 := Tryz.zeroValue203
  t46 := Tryz.underlying204
  a46 := Tryz.isAgg204
  z46 := Tryz.sizeOf204
  v46 := Tryz.zeroValue204
  t50 := Tryz.underlying90
  a50 := Tryz.isAgg90
  z50 := Tryz.sizeOf90
  v50 := Tryz.zeroValue90
  t53 := Tryz.underlying129
  a53 := Tryz.isAgg129
  z53 := Tryz.sizeOf129
  v53 := Tryz.zeroValue129
  t55 := Tryz.underlying165
  a55 := Tryz.isAgg165
  z55 := Tryz.sizeOf165
  v55 := Tryz.zeroValue165
  t66 := Tryz.underlying222
  a66 := Tryz.isAgg222
  z66 := Tryz.sizeOf222
  v66 := Tryz.zeroValue222
  t70 := Tryz.underlying226
  a70 := Tryz.isAgg226
  z70 := Tryz.sizeOf226
  v70 := Tryz.zeroValue226
  t76 := Tryz.underlying236
  a76 := Tryz.isAgg236
  z76 := Tryz.sizeOf236
  v76 := Tryz.zeroValue236
  t77 := Tryz.underlying237
  a77 := Tryz.isAgg237
  z77 := Tryz.sizeOf237
  v77 := Tryz.zeroValue237 }
theorem Anq : dQ Tryz.prog 44 2 := by
  refine ⟨enters_of Tryz.func44 (by kernel_rfl) rfl, λ p cap fv w => AnyF.slices_SortFunc_none { Vs with } p cap fv w, λ N enc hk h1 cf hO g c9 off cap d w eg s8 hH hblk x8 hT => ?_⟩
  exact AnyQ.slices_SortFunc_total Vs 2 Tryz.isAgg41 Tryz.sizeOf41 enc hk h1 cf hO g #[] c9 off cap d w eg s8 hH hblk x8 hT
theorem AkD : (Tryz.prog.info? 5).map (λ i => (i.zero, i.size, i.bytes)) = some (some (.int .u8 0), 1, 1) := by kernel_rfl
abbrev sP : String := (Rows.limitcycleRefusesRow.named.head?).getD default
set_option maxHeartbeats 6400000 in
set_option maxRecDepth 100000 in
theorem Ale (W0 : World) (xa : Option Addr) (xb xo len cap : Nat) (s : List Int) (Hm : s.length = len) (Ey : 0 < len -> xa = some ⟨xb, xo, none⟩) (hcell : ∀ i v, s[i]? = some v -> W0.cell? ⟨xb, xo + i, none⟩ = some (.int .i64 v))
    (Ij : ∀ v ∈ s, DJ v) (hlen : len <= 64) (hT : Lib.TabBelow Tryz.prog W0.heap.size W0 sP .u64 Lib.pow10Tab) :
    Calls Tryz.prog 56 #[.slice xa len cap] W0 λ e w' => e = .returned (.string ⟨(FY s).toArray⟩) /\ Below W0.heap.size W0 w' := by
  obtain ⟨i0, hi, cz, ku, ka⟩ := info_parts AkD
  have hA : ∀ (n : Nat) (i : Int) (h0 : -9223372036854775808 <= i) (h1 : i <= 9223372036854775807) (sv : Value) (xs : List Value) (w : World), w.ownsRow W0.heap.size 5 1 sv n xs -> W0.heap.size <= w.heap.size -> n + 21 <= 140737488355328 -> Lib.TabBelow Tryz.prog W0.heap.size w sP .u64 Lib.pow10Tab ->
      Calls Tryz.prog 109 #[sv, .int .i64 i, .int .i64 10] w λ e w' => ∃ v', e = .returned v' /\ w'.ownsRow W0.heap.size 5 1 v' (n + (Lib.itoa i).length) (xs ++ Lib.byteCells (Lib.itoa i)) /\ Below W0.heap.size w w' /\ Lib.OthersKept 5 none w w' :=
    λ n i h0 h1 sv xs w a b c d => Any.strconv_AppendInt_10 Alj W0.heap.size n i h0 h1 sv xs w a b c d
  have HC : Hid (∀ i v, s[i]? = some v -> W0.cell? ⟨xb, xo + i, none⟩ = some (.int .i64 v)) := hcell
  have HR : Hid (∀ v ∈ s, DJ v) := Ij
  have HA := Lib.hid hA
  have HT := Lib.hid hT
  have HL : Hid (s.length = len) := Hm
  have Ez : 0 < len -> xb < W0.heap.size := λ h => by
    have := hcell 0 _ (List.getElem?_eq_getElem (by omega))
    exact RZ this
  clear hcell Ij hA hT Hm
  go_enter Tryz.func56, Tryz.ntmps56
  go_wp2
  Ft [3, 8] (λ v i wl => ∃ k : Nat, k <= len /\ i = .int .i64 k /\ wl.ownsRow W0.heap.size 5 1 v (FY (s.take k)).length (Lib.byteCells (FY (s.take k))) /\ Below W0.heap.size W0 wl)
    (λ_ i _ => len - (intOf i).toNat)
  case Jp => exact ⟨0, Nat.zero_le _, rfl, World.ownsRow_nil _ _ _ _, Below.refl _ _⟩
  case round =>
    obtain ⟨k, hk, rfl, l8, ik⟩ := Di
    have ua : (FY (s.take k)).length <= 22 * k := by
      have := oR (s.take k) λ x hx => HR.out x (List.mem_of_mem_take hx)
      rw [List.length_take] at this
      omega
    by_cases k7 : k < len
    · have e := Ey (by omega)
      subst e
      obtain ⟨z, hz⟩ : ∃ z, s[k]? = some z := ⟨_, List.getElem?_eq_getElem (by have := HL.out; omega)⟩
      have jx : wr.cell? ⟨xb, xo + k, none⟩ = some (.int .i64 z) := (ik.cell (Ez (by omega))).trans (HC.out k z hz)
      have Qv := HR.out z (List.mem_of_getElem? hz)
      have Jb := Qv.1
      have Jc := Qv.2
      have ic := Lib.itoa_length_le z Jb Jc
      have x8 := ik.size
      have HZ : Hid (FY (s.take (k + 1)) = FY (s.take k) ++ (Lib.itoa z ++ [32])) := by
        show _ = _
        rw [List.take_add_one, hz]
        exact Alb _ _
      have hTw := HT.out.on ik
      have HTw := Lib.hid hTw
      clear Ey hz Qv hTw
      obtain ⟨pre, De⟩ : ∃ pre, pre = FY (s.take k) := ⟨_, rfl⟩
      rw [<- De] at l8 ua
      have HP := Lib.hid De
      clear De
      oh (Bx 109; refine (HA.out pre.length z Jb Jc u3 _ wr l8 (by omega) (by omega) HTw.out).mono ?_; rintro e w1 ⟨v1, rfl, pf, Pg, -⟩; refine Hid.out ?_)
      refine Lib.hid ?_
      have tc : Below W0.heap.size W0 w1 := ik.trans Pg
      clear l8 jx HTw
      oh (Br; refine wpList_append_own _ rfl _ _ 155 rfl W0.heap.size 5 i0 (.int .u8 0) 1 1 Tryz.underlying155 hi cz ku ka rfl (by decide) _ _ _ rfl (pf.alloc _) ⟨w1.heap.size, 0, none⟩ 1 1 [Value.int .u8 32] rfl rfl (by intro j u' hj; match j, hj with | 0, hj => simp at hj; subst hj; simp [Addr.add]) (by intro u' lk; simp at lk; subst lk; rfl) (by unfold maxLen; omega) (by omega) (by have := tc.size; simp; omega) ?_)
      intro v2 w2 Aw ox _
      have Ph : Below W0.heap.size W0 w2 := (tc.alloc (by have := tc.size; omega) _).grown ox (by have := tc.size; simp; omega) (λ k hk => (pf.lt k hk).1)
      have eL : Lib.byteCells pre ++ (Lib.byteCells (Lib.itoa z) ++ [Value.int .u8 32]) = Lib.byteCells (FY (s.take (k + 1))) := by
        rw [HZ.out, <- HP.out]
        simp [Lib.byteCells]
      have eN : pre.length + (Lib.itoa z).length + 1 = (FY (s.take (k + 1))).length := by
        rw [HZ.out, <- HP.out]
        simp; omega
      rw [eL, eN] at Aw
      clear eL eN pf ox
      go_wp2
      Dy
      case rel => exact ⟨k + 1, by omega, by Lz, Aw, Ph⟩
      case measure => simp [intOf]; omega
    · have Cu : k = len := by omega
      subst Cu
      rw [List.take_of_length_le (by have := HL.out; omega)] at l8
      obtain ⟨l, hl⟩ : ∃ l, l = FY s := ⟨_, rfl⟩
      rw [<- hl] at l8
      have HLL := Lib.hid hl
      clear hl
      rcases l8.2 with ⟨rfl, h0⟩ | ⟨g, Lu, cur, rfl, -, -, -, -, -, -⟩
      · have y7 := Lib.run_convert_nil_bytes (P := Tryz.prog) wr 155 9 5 0 Tryz.underlying155 Tryz.underlying5 Tryz.underlying9
        have nc : l = [] := List.eq_nil_of_length_eq_zero h0
        have HL0 := Lib.hid nc
        clear nc h0
        go_wp2
        go_ret
        have hl := HLL.out
        have nc := HL0.out
        rw [<- hl, nc]
        exact ⟨rfl, ik⟩
      · have y7 := run_convert_bytes_back (P := Tryz.prog) wr 155 9 5 ⟨g, 0, none⟩ Lu l Tryz.underlying155 Tryz.underlying5 Tryz.underlying9 (λ j hj => l8.cells (g := g) rfl j _ (by simp [Lib.byteCells, hj]))
        go_wp2
        go_ret
        have hl := HLL.out
        subst hl
        exact ⟨rfl, ik⟩
/-- Rg that pq the table -/
def oQ (b : Nat) : E0 := ⟨b, λ w => b <= w.heap.size /\ Lib.TabBelow Tryz.prog b w sP .u64 Lib.pow10Tab, False, λ_ h => h.1, λ_ _ h hb => ⟨Nat.le_trans h.1 hb.size, h.2.on hb⟩⟩
theorem Ak8 (b : Nat) : tV Tryz.prog 56 (oQ b) := by
  refine ⟨enters_of Tryz.func56 (by kernel_rfl) rfl, λ W xa xb xo cap s hw h1 h2 h3 => ?_⟩
  exact Ale W xa xb xo s.length cap s rfl h1 h2 h3.Jl h3.len λ w' hb => hw.2 w' (hb.mono hw.1)
theorem AnU {w : World} (hL : laidMet Tryz.prog Rows.limitcycleRefusesRow.laid w) : (oQ w.heap.size).ok w := by
  refine ⟨Nat.le_refl _, Lib.tabBelow_of_tabIs ?_⟩
  exact Lib.tabIs_of_head (g := 0) (t := 251) (e := 165) (n := 20) (by kernel_rfl) (by kernel_rfl) Tryz.underlying251 Tryz.underlying165 (by kernel_rfl) (by kernel_rfl) (laidMet.tail (laidMet.tail (hL)))
end Go.Proofs.YtmhfodhmngfoiaaGreatDoor

