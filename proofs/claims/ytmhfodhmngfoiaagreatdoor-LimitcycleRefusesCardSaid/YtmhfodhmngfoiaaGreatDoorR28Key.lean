/-
  What is told of the library's functions at this program: the text of a state (strconv.AppendInt), slices.SortFunc.
-/
import Derived.Test.YtmhfodhmngfoiaaGreatDoorProg
import Derived.Test.YtmhfodhmngfoiaaGreatDoorRows
import Derived.KernelRfl
import Derived.Test.YtmhfodhmngfoiaaGreatDoorB3
import Derived.Test.YtmhfodhmngfoiaaGreatDoorB5
import Derived.Shelf.Strconv.AppendIntPublic10
import Derived.Shelf.SlSortCmp.NoneTotal
import Derived.Lib.AppendIntMem
import Derived.Lib.ItoaLen
import Derived.Lib.Slices
import Derived.Lib.Hide
import Derived.Laws.IdiomStrings
import Derived.OwnWalk
import Derived.WalkKit
import Derived.BigCall
import Derived.LoopTactic
import Derived.Lib.BufferRead
import Derived.Stop.LaidErr
set_option linter.unusedSimpArgs false
set_option linter.unusedVariables false
set_option linter.unnecessarySimpa false
namespace Go.Proofs.YtmhfodhmngfoiaaGreatDoor
open Tryz
open Go.Shelf Go.RowKit Go.Eng
theorem k8{p:Prop}(h:p:=by kernel_rfl):p:=h
theorem k7{α:Type}{a:Option α}{f g:α}(h:a = some f)(e:f = g:=by kernel_rfl):a = some g:=h.trans (congrArg some e)
def Alj:Go.Shelf.Ren:=⟨fun |176=>109 |249=>168 |288=>206 |283=>219 |284=>220 |285=>221 |286=>222 |129=>163 |317=>227 |318=>228 |319=>229 |320=>230 |337=>231 |338=>232 |n=>n, fun |37=>155 |2=>2 |3=>3 |53=>165 |4=>4 |9=>9 |171=>240 |0=>0 |173=>242 |212=>251 |51=>129 |5=>5 |20=>20 |213=>252 |46=>67 |232=>253 |233=>254 |n=>n, fun |17=>0 |18=>1 |19=>2 |n=>n⟩
theorem Ali:Go.Proofs.LaysM.n176 Tryz.prog Alj:={
 mixed:=k8
 f129:=k7 func163
 f176:=k7 func109
 f249:=k7 func168
 f283:=k7 func219
 f284:=k7 func220
 f285:=k7 func221
 f286:=k7 func222
 f288:=k7 func206
 f317:=k7 func227
 f318:=k7 func228
 f319:=k7 func229
 f320:=k7 func230
 f337:=k7 func231
 f338:=k7 func232
 t0:=underlying0
 a0:=isAgg0
 z0:=sizeOf0
 v0:=zeroValue0
 t2:=underlying2
 a2:=isAgg2
 z2:=sizeOf2
 v2:=zeroValue2
 t3:=underlying3
 a3:=isAgg3
 z3:=sizeOf3
 v3:=zeroValue3
 t4:=underlying4
 a4:=isAgg4
 z4:=sizeOf4
 v4:=zeroValue4
 t5:=underlying5
 a5:=isAgg5
 z5:=sizeOf5
 v5:=zeroValue5
 t9:=underlying9
 a9:=isAgg9
 z9:=sizeOf9
 v9:=zeroValue9
 t20:=underlying20
 a20:=isAgg20
 z20:=sizeOf20
 v20:=zeroValue20
 t37:=underlying155
 a37:=isAgg155
 z37:=sizeOf155
 v37:=zeroValue155
 t46:=underlying67
 a46:=isAgg67
 z46:=sizeOf67
 v46:=zeroValue67
 t51:=underlying129
 a51:=isAgg129
 z51:=sizeOf129
 v51:=zeroValue129
 t53:=underlying165
 a53:=isAgg165
 z53:=sizeOf165
 v53:=zeroValue165
 t171:=underlying240
 a171:=isAgg240
 z171:=sizeOf240
 v171:=zeroValue240
 t173:=underlying242
 a173:=isAgg242
 z173:=sizeOf242
 v173:=zeroValue242
 t212:=underlying251
 a212:=isAgg251
 z212:=sizeOf251
 v212:=zeroValue251
 t213:=underlying252
 a213:=isAgg252
 z213:=sizeOf252
 t232:=underlying253
 a232:=isAgg253
 z232:=sizeOf253
 v232:=zeroValue253
 t233:=underlying254
 a233:=isAgg254
 z233:=sizeOf254
 v233:=zeroValue254
 g17:=k8
 g18:=k8
 g19:=k8
 i0:=k8
 i2:=k8
 i3:=k8
 i4:=k8
 i5:=k8
 i9:=k8
 i20:=k8
 i37:=k8
 i46:=k8
 i51:=k8
 i53:=k8
 i171:=k8
 i173:=k8
 i212:=k8
 i232:=k8
 i233:=k8
 m17:=k8
 m18:=k8
 m19:=k8 }
def Alk:Go.Shelf.Ren:=⟨fun |6=>44 |15=>105 |14=>104 |28=>162 |29=>163 |20=>154 |21=>155 |22=>156 |23=>157 |24=>158 |25=>159 |26=>160 |27=>161 |46=>199 |47=>200 |48=>201 |49=>202 |50=>203 |57=>218 |n=>n, fun |22=>36 |24=>41 |25=>100 |3=>3 |39=>67 |0=>0 |53=>129 |55=>165 |4=>4 |46=>204 |45=>203 |50=>90 |5=>5 |9=>9 |66=>222 |70=>226 |76=>236 |77=>237 |n=>n, fun |n=>n⟩
theorem Ub:Go.Proofs.SlLaysF0.n6 Tryz.prog Alk:={
 mixed:=k8
 f6:=⟨f44.name, by decide, k7 func44⟩
 f14:=⟨f104.name, by decide, k7 func104⟩
 f15:=k7 func105
 f20:=⟨f154.name, by decide, k7 func154⟩
 f21:=⟨f155.name, by decide, k7 func155⟩
 f22:=⟨f156.name, by decide, k7 func156⟩
 f23:=⟨f157.name, by decide, k7 func157⟩
 f24:=⟨f158.name, by decide, k7 func158⟩
 f25:=⟨f159.name, by decide, k7 func159⟩
 f26:=⟨f160.name, by decide, k7 func160⟩
 f27:=⟨f161.name, by decide, k7 func161⟩
 f28:=k7 func162
 f29:=k7 func163
 f46:=⟨f199.name, by decide, k7 func199⟩
 f47:=k7 func200
 f48:=k7 func201
 f49:=⟨f202.name, by decide, k7 func202⟩
 f50:=⟨f203.name, by decide, k7 func203⟩
 f57:=⟨f218.name, by decide, k7 func218⟩
 t0:=underlying0
 a0:=isAgg0
 z0:=sizeOf0
 v0:=zeroValue0
 t3:=underlying3
 a3:=isAgg3
 z3:=sizeOf3
 v3:=zeroValue3
 t4:=underlying4
 a4:=isAgg4
 z4:=sizeOf4
 v4:=zeroValue4
 t5:=underlying5
 a5:=isAgg5
 z5:=sizeOf5
 v5:=zeroValue5
 t9:=underlying9
 a9:=isAgg9
 z9:=sizeOf9
 v9:=zeroValue9
 t22:=underlying36
 a22:=isAgg36
 z22:=sizeOf36
 v22:=zeroValue36
 t25:=underlying100
 a25:=isAgg100
 z25:=sizeOf100
 v25:=zeroValue100
 t39:=underlying67
 a39:=isAgg67
 z39:=sizeOf67
 v39:=zeroValue67
 t45:=underlying203
 a45:=isAgg203
 z45:=sizeOf203
 v45:=zeroValue203
 t46:=underlying204
 a46:=isAgg204
 z46:=sizeOf204
 v46:=zeroValue204
 t50:=underlying90
 a50:=isAgg90
 z50:=sizeOf90
 v50:=zeroValue90
 t53:=underlying129
 a53:=isAgg129
 z53:=sizeOf129
 v53:=zeroValue129
 t55:=underlying165
 a55:=isAgg165
 z55:=sizeOf165
 v55:=zeroValue165
 t66:=underlying222
 a66:=isAgg222
 z66:=sizeOf222
 v66:=zeroValue222
 t70:=underlying226
 a70:=isAgg226
 z70:=sizeOf226
 v70:=zeroValue226
 t76:=underlying236
 a76:=isAgg236
 z76:=sizeOf236
 v76:=zeroValue236
 t77:=underlying237
 a77:=isAgg237
 z77:=sizeOf237
 v77:=zeroValue237 }
theorem Anp:dO Tryz.prog 44 2:=by
  refine⟨enters_of func44 (by kernel_rfl) rfl, λp cap fv w=>AnyF.slices_SortFunc_none { Ub with } p cap fv w, λN enc hk h1 cf hO g c9 off cap d w eg hcmp hH hblk hsz hT=>?_⟩
  exact AnyQ.slices_SortFunc_total Ub 2 isAgg41 sizeOf41 enc hk h1 cf hO g #[] c9 off cap d w eg hcmp hH hblk hsz hT
theorem AkC:(Tryz.prog.info? 5).map (λi=>(i.zero, i.size, i.bytes)) = some (some (.int .u8 0), 1, 1):=by kernel_rfl
abbrev sP:String:=(Rows.limitcycleRefusesRow.named.head?).getD default
set_option maxHeartbeats 6400000 in
set_option maxRecDepth 100000 in
theorem Ald(W0:World)(xa:Option Addr)(xb xo len cap:Nat)(s:List Int)(hls:s.length = len)(hxa:0 < len->xa = some ⟨xb, xo, none⟩)(hcell:∀i v, s[i]?=some v->W0.cell? ⟨xb, xo + i, none⟩ = some (.int .i64 v))
    (hrng:∀v ∈ s, C3 v) (hlen:len <= 64) (hT:Lib.TabBelow Tryz.prog W0.heap.size W0 sP .u64 Lib.pow10Tab) :
    Calls Tryz.prog 56 #[.slice xa len cap] W0 λe w'=>e = .returned (.string ⟨(FK s).toArray⟩)/\Below W0.heap.size W0 w':=by
  obtain⟨i0, hi, hz0, hz1, hz2⟩:=info_parts AkC
  have hA:∀(n:Nat)(i:Int)(h0:-9223372036854775808 <= i)(h1:i <= 9223372036854775807)(sv:Value)(xs:List Value)(w:World), w.ownsRow W0.heap.size 5 1 sv n xs->W0.heap.size <= w.heap.size->n + 21 <= 140737488355328->Lib.TabBelow Tryz.prog W0.heap.size w sP .u64 Lib.pow10Tab ->
      Calls Tryz.prog 109 #[sv, .int .i64 i, .int .i64 10] w λe w'=>∃v', e = .returned v'/\w'.ownsRow W0.heap.size 5 1 v' (n + (Lib.itoa i).length) (xs ++ Lib.byteCells (Lib.itoa i))/\Below W0.heap.size w w'/\Lib.OthersKept 5 none w w' :=
    λn i h0 h1 sv xs w a b c d=>Any.strconv_AppendInt_10 Ali W0.heap.size n i h0 h1 sv xs w a b c d
  have HC:Hid (∀i v, s[i]?=some v->W0.cell? ⟨xb, xo + i, none⟩ = some (.int .i64 v)):=hcell
  have HR:Hid (∀v ∈ s, C3 v):=hrng
  have HA:=Lib.hid hA
  have HT:=Lib.hid hT
  have HL:Hid (s.length = len):=hls
  have hxb:0 < len->xb < W0.heap.size:=λh=>by
    have:=hcell 0 _ (List.getElem?_eq_getElem (by omega))
    exact RS this
  clear hcell hrng hA hT hls
  go_enter func56, Tryz.ntmps56
  go_wp2
  go_loopw [3, 8] (λv i wl=>∃k:Nat, k <= len/\i = .int .i64 k/\wl.ownsRow W0.heap.size 5 1 v (FK (s.take k)).length (Lib.byteCells (FK (s.take k)))/\Below W0.heap.size W0 wl)
    (λ_ i _=>len - (intOf i).toNat)
  case atStart=>exact⟨0, Nat.zero_le _, rfl, World.ownsRow_nil _ _ _ _, Below.refl _ _⟩
  case round=>
    obtain⟨k, hk, rfl, hown, hnx⟩:=hrel
    have hkl:(FK (s.take k)).length <= 22 * k:=by
      have:=oR (s.take k) λx hx=>HR.out x (List.mem_of_mem_take hx)
      rw[List.length_take]at this
      omega
    by_cases hlt:k < len
    · have e:=hxa (by omega)
      subst e
      obtain⟨z, hz⟩:∃z, s[k]?=some z:=⟨_, List.getElem?_eq_getElem (by have:=HL.out; omega)⟩
      have hck:wr.cell? ⟨xb, xo + k, none⟩ = some (.int .i64 z):=(hnx.cell (hxb (by omega))).trans (HC.out k z hz)
      have hzr:=HR.out z (List.mem_of_getElem? hz)
      have hz0':=hzr.1
      have hz1':=hzr.2
      have hil:=Lib.itoa_length_le z hz0' hz1'
      have hsz:=hnx.size
      have HZ:Hid (FK (s.take (k + 1)) = FK (s.take k) ++ (Lib.itoa z ++ [32])):=by
        show _ = _
        rw[List.take_add_one, hz]
        exact Ala _ _
      have hTw:=HT.out.on hnx
      have HTw:=Lib.hid hTw
      clear hxa hz hzr hTw
      obtain⟨pre, hpre⟩:∃pre, pre = FK (s.take k):=⟨_, rfl⟩
      rw[<- hpre]at hown hkl
      have HP:=Lib.hid hpre
      clear hpre
      go_wp2_with (go_at_call 109; refine(HA.out pre.length z hz0' hz1' u3 _ wr hown (by omega) (by omega) HTw.out).mono ?_; rintro e w1 ⟨v1, rfl, hown1, hnx1, -⟩; refine Hid.out ?_)
      refine Lib.hid ?_
      have hnx1':Below W0.heap.size W0 w1:=hnx.trans hnx1
      clear hown hck HTw
      go_wp2_with (at_builtin; refine wpList_append_own _ rfl _ _ 155 rfl W0.heap.size 5 i0 (.int .u8 0) 1 1 underlying155 hi hz0 hz1 hz2 rfl (by decide) _ _ _ rfl (hown1.alloc _) ⟨w1.heap.size, 0, none⟩ 1 1 [Value.int .u8 32] rfl rfl (by intro j u' hj; match j, hj with |0, hj=>simp at hj; subst hj; simp[Addr.add]) (by intro u' hu'; simp at hu'; subst hu'; rfl) (by unfold maxLen; omega) (by omega) (by have:=hnx1'.size; simp; omega) ?_)
      intro v2 w2 hown2 hgrow _
      have hnx2:Below W0.heap.size W0 w2:=(hnx1'.alloc (by have:=hnx1'.size; omega) _).grown hgrow (by have:=hnx1'.size; simp; omega) (λk hk=>(hown1.lt k hk).1)
      have eL:Lib.byteCells pre ++ (Lib.byteCells (Lib.itoa z) ++ [Value.int .u8 32]) = Lib.byteCells (FK (s.take (k + 1))):=by
        rw[HZ.out, <- HP.out]
        simp[Lib.byteCells]
      have eN:pre.length + (Lib.itoa z).length + 1 = (FK (s.take (k + 1))).length:=by
        rw[HZ.out, <- HP.out]
        simp; omega
      rw[eL, eN]at hown2
      clear eL eN hown1 hgrow
      go_wp2
      go_roundw
      case rel=>exact⟨k + 1, by omega, by go_num, hown2, hnx2⟩
      case measure=>simp[intOf]; omega
    · have hkn:k = len:=by omega
      subst hkn
      rw[List.take_of_length_le (by have:=HL.out; omega)]at hown
      obtain⟨l, hl⟩:∃l, l = FK s:=⟨_, rfl⟩
      rw[<- hl]at hown
      have HLL:=Lib.hid hl
      clear hl
      rcases hown.2 with⟨rfl, h0⟩ |⟨g, cap', cur, rfl, -, -, -, -, -, -⟩
      · have hcv:=Lib.run_convert_nil_bytes (P:=Tryz.prog) wr 155 9 5 0 underlying155 underlying5 underlying9
        have hl0:l = []:=List.eq_nil_of_length_eq_zero h0
        have HL0:=Lib.hid hl0
        clear hl0 h0
        go_wp2
        go_ret
        have hl:=HLL.out
        have hl0:=HL0.out
        rw[<- hl, hl0]
        exact⟨rfl, hnx⟩
      · have hcv:=run_convert_bytes_back (P:=Tryz.prog) wr 155 9 5 ⟨g, 0, none⟩ cap' l underlying155 underlying5 underlying9 (λj hj=>hown.cells (g:=g) rfl j _ (by simp[Lib.byteCells, hj]))
        go_wp2
        go_ret
        have hl:=HLL.out
        subst hl
        exact⟨rfl, hnx⟩
/-- worlds that keep the table -/
def oQ(b:Nat):EL:=⟨b, λw=>b <= w.heap.size/\Lib.TabBelow Tryz.prog b w sP .u64 Lib.pow10Tab, False, λ_ h=>h.1, λ_ _ h hb=>⟨Nat.le_trans h.1 hb.size, h.2.on hb⟩⟩
theorem Ak7(b:Nat):tV Tryz.prog 56 (oQ b):=by
  refine⟨enters_of func56 (by kernel_rfl) rfl, λW xa xb xo cap s hw h1 h2 h3=>?_⟩
  exact Ald W xa xb xo s.length cap s rfl h1 h2 h3.Hz h3.len λw' hb=>hw.2 w' (hb.mono hw.1)
theorem AnT{w:World}(hL:laidMet Tryz.prog Rows.limitcycleRefusesRow.laid w):(oQ w.heap.size).ok w:=by
  refine⟨Nat.le_refl _, Lib.tabBelow_of_tabIs ?_⟩
  exact Lib.tabIs_of_head (g:=0) (t:=251) (e:=165) (n:=20) (by kernel_rfl) (by kernel_rfl) underlying251 underlying165 (by kernel_rfl) (by kernel_rfl) (laidMet.tail (laidMet.tail (hL)))
end Go.Proofs.YtmhfodhmngfoiaaGreatDoor

