/-
  Systems of rational numbers, plain: sizes, products, responses.
-/
import Derived.Test.YtajmlglkafhdhaaB8
import Derived.Test.YtajmlglkafhdhaaB4
import Derived.Test.YtajmlglkafhdhaaB7
import Derived.Test.YtajmlglkafhdhaaB6
set_option linter.unusedSimpArgs false
set_option linter.unusedVariables false
set_option linter.unnecessarySimpa false
namespace Go.Eng
/-! sizes, in bits -/
def Bt (k : Nat) (x : Rat) : Prop := x.num.natAbs ≤ 2 ^ k ∧ x.den ≤ 2 ^ k
theorem Bt.le {k l : Nat} {x : Rat} (h : Bt k x) (hl : k ≤ l) : Bt l x := by
  have := Nat.pow_le_pow_right (show 0 < 2 by omega) hl
  exact ⟨Nat.le_trans h.1 this, Nat.le_trans h.2 this⟩
theorem Bt.mk {k : Nat} {z : Int} {d : Nat} (hz : z.natAbs ≤ 2 ^ k) (hd : d ≤ 2 ^ k) : Bt k (mkRat z d) := by
  by_cases h0 : d = 0
  · subst h0
    rw [Rat.mkRat_zero]
    exact ⟨by simp, by simp; exact Nat.one_le_two_pow⟩
  · obtain ⟨e1, e2, _⟩ := mk_parts (z := z) h0
    unfold Bt
    rw [e1, e2]
    exact ⟨Nat.le_trans (Nat.div_le_self _ _) hz, Nat.le_trans (Nat.div_le_self _ _) hd⟩
theorem Bt.add {k l : Nat} {x y : Rat} (hx : Bt k x) (hy : Bt l y) : Bt (k + l + 1) (x + y) := by
  rw [Rat.add_def']
  refine Bt.mk ?_ ?_
  · have h1 : (x.num * y.den).natAbs ≤ 2 ^ k * 2 ^ l := by rw [Int.natAbs_mul, Int.natAbs_natCast]; exact Nat.mul_le_mul hx.1 hy.2
    have h2 : (y.num * x.den).natAbs ≤ 2 ^ l * 2 ^ k := by rw [Int.natAbs_mul, Int.natAbs_natCast]; exact Nat.mul_le_mul hy.1 hx.2
    rw [Nat.mul_comm (2 ^ l)] at h2
    rw [Nat.pow_succ, Nat.pow_add]
    have h3 := Int.natAbs_add_le (x.num * y.den) (y.num * x.den)
    omega
  · rw [Nat.pow_succ, Nat.pow_add]
    have := Nat.mul_le_mul hx.2 hy.2
    omega
theorem Bt.mul {k l : Nat} {x y : Rat} (hx : Bt k x) (hy : Bt l y) : Bt (k + l) (x * y) := by
  rw [Rat.mul_def']
  refine Bt.mk ?_ ?_
  · rw [Int.natAbs_mul, Nat.pow_add]; exact Nat.mul_le_mul hx.1 hy.1
  · rw [Nat.pow_add]; exact Nat.mul_le_mul hx.2 hy.2
theorem Bt.zero (k : Nat) : Bt k 0 := ⟨by simp, by simp; exact Nat.one_le_two_pow⟩
theorem Bt.one (k : Nat) : Bt k 1 := ⟨by simp; exact Nat.one_le_two_pow, by simp; exact Nat.one_le_two_pow⟩
theorem Bt.dig {k n : Nat} {x : Rat} (h : Bt k x) (hn : k < 32 * n) : Sm n (dg x.num.natAbs) ∧ Sm n (dg x.den) := by
  have e : 2 ^ k < 4294967296 ^ n := by
    rw [show 4294967296 = 2 ^ 32 from rfl, ← Nat.pow_mul]
    exact (Nat.pow_lt_pow_iff_right (by omega)).2 hn
  exact ⟨Sm.dg (Nat.lt_of_le_of_lt h.1 e), Sm.dg (Nat.lt_of_le_of_lt h.2 e)⟩
/-- all of a list -/
def Bs (k : Nat) (l : List Rat) : Prop := ∀ x ∈ l, Bt k x
theorem Bs.at {k : Nat} {l : List Rat} (h : Bs k l) {i : Nat} {x : Rat} (hx : l[i]? = some x) : Bt k x := h x (List.mem_of_getElem? hx)
theorem Bs.le {k j : Nat} {l : List Rat} (h : Bs k l) (hj : k ≤ j) : Bs j l := fun x hx => (h x hx).le hj
theorem Bs.take {k : Nat} {l : List Rat} (h : Bs k l) (n : Nat) : Bs k (l.take n) := fun x hx => h x (List.mem_of_mem_take hx)
/-! products -/
def dotQ : List Rat → List Rat → Rat
  | x :: xs, y :: ys => x * y + dotQ xs ys
  | _, _ => 0
theorem dotQ_snoc : ∀ {a b : List Rat} {x y : Rat}, a.length = b.length → dotQ (a ++ [x]) (b ++ [y]) = dotQ a b + x * y
  | [], [], x, y, _ => by show x * y + 0 = 0 + x * y; rw [Rat.add_zero, Rat.zero_add]
  | p :: a, q :: b, x, y, h => by
    show p * q + dotQ (a ++ [x]) (b ++ [y]) = p * q + dotQ a b + x * y
    rw [dotQ_snoc (by simpa using h), Rat.add_assoc]
theorem dotQ_take {a b : List Rat} {i : Nat} {x y : Rat} (hx : a[i]? = some x) (hy : b[i]? = some y) : dotQ (a.take (i + 1)) (b.take (i + 1)) = dotQ (a.take i) (b.take i) + x * y := by
  have h1 := (List.getElem?_eq_some_iff.1 hx).1
  have h2 := (List.getElem?_eq_some_iff.1 hy).1
  rw [List.take_add_one, List.take_add_one, hx, hy, Option.toList_some, Option.toList_some, dotQ_snoc (by rw [List.length_take, List.length_take]; omega)]
theorem dotQ_all {a b : List Rat} {n : Nat} (h : a.length = n) : dotQ (a.take n) (b.take n) = dotQ a b := by
  subst h
  rw [List.take_of_length_le (Nat.le_refl _)]
  induction a generalizing b with
  | nil => cases b <;> rfl
  | cons x a ih => cases b with
    | nil => rfl
    | cons y b => simp only [List.length_cons, List.take_succ_cons, dotQ, ih]
theorem Bs.dot {k l : Nat} : ∀ {a b : List Rat}, Bs k a → Bs l b → Bt (a.length * (k + l + 1)) (dotQ a b)
  | [], b, _, _ => by cases b <;> exact Bt.zero _
  | x :: a, [], _, _ => Bt.zero _
  | x :: a, y :: b, ha, hb => by
    have h1 := (ha x (by simp)).mul (hb y (by simp))
    have h2 := Bs.dot (a := a) (b := b) (fun z hz => ha z (by simp [hz])) (fun z hz => hb z (by simp [hz]))
    refine (h1.add h2).le ?_
    rw [List.length_cons, Nat.succ_mul]
    omega
/-! systems -/
structure SysQ where
  a : List (List Rat)
  b : List Rat
  c : List Rat
  d : Rat
structure SysQ.Ok (S : SysQ) (n k : Nat) : Prop where
  la : S.a.length = n
  lr : ∀ r ∈ S.a, r.length = n
  lb : S.b.length = n
  lc : S.c.length = n
  ba : ∀ r ∈ S.a, Bs k r
  bb : Bs k S.b
  bc : Bs k S.c
  bd : Bt k S.d
def SysQ.out (S : SysQ) (now : List Rat) (x : Rat) : Rat := dotQ S.c now + S.d * x
def nextQ (now : List Rat) (x : Rat) : List (List Rat) → List Rat → List Rat
  | r :: a, b :: bs => (dotQ r now + b * x) :: nextQ now x a bs
  | _, _ => []
def SysQ.next (S : SysQ) (now : List Rat) (x : Rat) : List Rat := nextQ now x S.a S.b
def SysQ.state (S : SysQ) : List Rat → List Rat → List Rat
  | now, [] => now
  | now, x :: xs => S.state (S.next now x) xs
def SysQ.outs (S : SysQ) : List Rat → List Rat → List Rat
  | _, [] => []
  | now, x :: xs => S.out now x :: S.outs (S.next now x) xs
theorem nextQ_len (now : List Rat) (x : Rat) : ∀ (a : List (List Rat)) (b : List Rat), a.length = b.length → (nextQ now x a b).length = a.length
  | [], [], _ => rfl
  | r :: a, y :: b, h => by simp only [nextQ, List.length_cons]; rw [nextQ_len now x a b (by simpa using h)]
theorem nextQ_at (now : List Rat) (x : Rat) : ∀ (a : List (List Rat)) (b : List Rat) (i : Nat) (r : List Rat) (y : Rat), a[i]? = some r → b[i]? = some y → (nextQ now x a b)[i]? = some (dotQ r now + y * x)
  | [], _, i, r, y, h, _ => by simp at h
  | _ :: _, [], i, r, y, _, h => by simp at h
  | r0 :: a, y0 :: b, 0, r, y, h, h' => by
    simp at h h'
    subst h; subst h'; rfl
  | r0 :: a, y0 :: b, i + 1, r, y, h, h' => by
    simp only [nextQ, List.getElem?_cons_succ] at h h' ⊢
    exact nextQ_at now x a b i r y h h'
theorem state_snoc (S : SysQ) (x : Rat) : ∀ (xs now : List Rat), S.state now (xs ++ [x]) = S.next (S.state now xs) x
  | [], _ => rfl
  | y :: xs, now => state_snoc S x xs (S.next now y)
theorem outs_snoc (S : SysQ) (x : Rat) : ∀ (xs now : List Rat), S.outs now (xs ++ [x]) = S.outs now xs ++ [S.out (S.state now xs) x]
  | [], _ => rfl
  | y :: xs, now => by
    show S.out now y :: S.outs (S.next now y) (xs ++ [x]) = _
    rw [outs_snoc S x xs (S.next now y)]; rfl
theorem outs_len (S : SysQ) : ∀ (xs now : List Rat), (S.outs now xs).length = xs.length
  | [], _ => rfl
  | y :: xs, now => by simp only [SysQ.outs, List.length_cons, outs_len S xs]
theorem SysQ.Ok.next_len {S : SysQ} {n k : Nat} (h : S.Ok n k) (now : List Rat) (x : Rat) : (S.next now x).length = n := by
  unfold SysQ.next; rw [nextQ_len _ _ _ _ (by rw [h.la, h.lb]), h.la]
theorem SysQ.Ok.state_len {S : SysQ} {n k : Nat} (h : S.Ok n k) : ∀ (xs now : List Rat), now.length = n → (S.state now xs).length = n
  | [], _, hn => hn
  | x :: xs, now, _ => h.state_len xs _ (h.next_len now x)
/-- sizes as the response goes on -/
def stepK (n k s : Nat) : Nat := n * (k + s + 1) + (k + k) + 1
def respK (n k : Nat) : Nat → Nat → Nat
  | s, 0 => s
  | s, i + 1 => respK n k (stepK n k s) i
theorem SysQ.Ok.next_bs {S : SysQ} {n k s : Nat} (h : S.Ok n k) {now : List Rat} {x : Rat} (hl : now.length = n) (hs : Bs s now) (hx : Bt k x) : Bs (stepK n k s) (S.next now x) ∧ Bt (stepK n k s) (S.out now x) := by
  constructor
  · have key : ∀ (a : List (List Rat)) (b : List Rat), (∀ r ∈ a, r.length = n ∧ Bs k r) → Bs k b → Bs (stepK n k s) (nextQ now x a b) := by
      intro a
      induction a with
      | nil => intro b _ _ y hy; simp [nextQ] at hy
      | cons r a ih =>
        intro b ha hb
        cases b with
        | nil => intro y hy; simp [nextQ] at hy
        | cons c b =>
          intro y hy
          simp only [nextQ, List.mem_cons] at hy
          rcases hy with rfl | hy
          · obtain ⟨l1, l2⟩ := ha r (by simp)
            have h1 := l2.dot (b := now) hs
            rw [l1] at h1
            refine (h1.add ((hb c (by simp)).mul hx)).le ?_
            unfold stepK; omega
          · exact ih b (fun r hr => ha r (by simp [hr])) (fun z hz => hb z (by simp [hz])) y hy
    exact key S.a S.b (fun r hr => ⟨h.lr r hr, h.ba r hr⟩) h.bb
  · have h1 := h.bc.dot (b := now) hs
    rw [h.lc] at h1
    refine (h1.add (h.bd.mul hx)).le ?_
    unfold stepK; omega
theorem respK_succ (n k : Nat) : ∀ (i s : Nat), respK n k s (i + 1) = stepK n k (respK n k s i)
  | 0, _ => rfl
  | i + 1, s => respK_succ n k i (stepK n k s)
theorem SysQ.Ok.state_bs {S : SysQ} {n k : Nat} (h : S.Ok n k) : ∀ (xs now : List Rat) (s : Nat), now.length = n → Bs s now → Bs k xs → Bs (respK n k s xs.length) (S.state now xs)
  | [], _, _, _, hs, _ => hs
  | x :: xs, now, s, hl, hs, hx => by
    exact h.state_bs xs _ _ (h.next_len now x) (h.next_bs hl hs (hx x (by simp))).1 (fun z hz => hx z (by simp [hz]))
/-- 1 at one place, 0 elsewhere -/
def unitL (n : Nat) (j : Int) : List Rat := (List.range n).map fun i : Nat => if (i : Int) = j then 1 else 0
theorem unitL_len (n : Nat) (j : Int) : (unitL n j).length = n := by simp [unitL]
theorem unitL_neg (n : Nat) : unitL n (-1) = List.replicate n 0 := by
  refine List.ext_getElem? fun i => ?_
  simp only [unitL, List.getElem?_map, List.getElem?_replicate, List.getElem?_range]
  by_cases h : i < n
  · rw [List.getElem?_range h, if_pos h]
    simp
  · rw [List.getElem?_eq_none (by simp; omega), if_neg h]; rfl
end Go.Eng

/-
  Rational numbers in lowest terms: the arithmetic of the program.
-/
namespace Go.Eng
open F
variable {L : Lib}
theorem Bt.sm {k : Nat} {x : Rat} (h : Bt k x) (hk : k < 2199023255552) : Sm 68719476736 (dg x.num.natAbs) ∧ Sm 68719476736 (dg x.den) := h.dig (by omega)
theorem ev_addQ (N : RatGLib L) {x y : Rat} {k l : Nat} (hx : Bt k x) (hy : Bt l y) (hk : k < 2199023255552) (hl : l < 2199023255552) : Ev L 98 [.agg (eQ x), .agg (eQ y)] (.agg (eQ (x + y))) := by
  have := ev_rational_Add N 68719476736 (by omega) (decide (x.num < 0)) (decide (y.num < 0)) false false false false _ _ _ _ (hx.sm hk).1 (hx.sm hk).2 (hy.sm hl).1 (hy.sm hl).2
  rw [qv_of, qv_of] at this
  exact this
theorem ev_mulQ (N : RatGLib L) {x y : Rat} {k l : Nat} (hx : Bt k x) (hy : Bt l y) (hk : k < 2199023255552) (hl : l < 2199023255552) : Ev L 99 [.agg (eQ x), .agg (eQ y)] (.agg (eQ (x * y))) := by
  have := ev_rational_Mul N 68719476736 (by omega) (decide (x.num < 0)) (decide (y.num < 0)) false false false false _ _ _ _ (hx.sm hk).1 (hx.sm hk).2 (hy.sm hl).1 (hy.sm hl).2
  rw [qv_of, qv_of] at this
  exact this
theorem ev_divQ (N : RatGLib L) {x y : Rat} {k l : Nat} (hx : Bt k x) (hy : Bt l y) (hk : k < 2199023255552) (hl : l < 2199023255552) (h0 : y ≠ 0) : Ev L 100 [.agg (eQ x), .agg (eQ y)] (.tup [.agg (eQ (x / y)), .int .i64 0]) := by
  have := ev_rational_Div N 68719476736 (by omega) (decide (x.num < 0)) (decide (y.num < 0)) false false false false _ _ _ _ (hx.sm hk).1 (hx.sm hk).2 (hy.sm hl).1 (hy.sm hl).2 (by rw [qv_of]; exact h0)
  rw [qv_of, qv_of] at this
  exact this
theorem ev_trimQ (N : RatGLib L) {x : Rat} {k : Nat} (hx : Bt k x) (hk : k < 2199023255552) : Ev L 95 [.agg (eQ x)] (.agg (eQ x)) := by
  have := ev_rational_Trim N (decide (x.num < 0)) false false _ _ ((hx.sm hk).1.le (by omega)) ((hx.sm hk).2.le (by omega))
  rw [qv_of] at this
  exact this
theorem ev_signQ (N : RatGLib L) {x : Rat} {k : Nat} (hx : Bt k x) (hk : k < 2199023255552) : Ev L 97 [.agg (eQ x)] (.int .i64 (sgn x.num)) := by
  have := ev_rational_Sign N (decide (x.num < 0)) false false _ _ ((hx.sm hk).1.le (by omega)) ((hx.sm hk).2.le (by omega))
  rw [qv_of] at this
  exact this
theorem sgn_num {x : Rat} : sgn x.num = 0 ↔ x = 0 := by
  rw [← Rat.num_eq_zero]
  unfold sgn
  split
  · omega
  · split <;> omega
end Go.Eng


/-
  Lists and systems of rational numbers as cells.
-/
namespace Go.Eng
/-- an element that may not be written yet -/
abbrev eO : Option Rat → List AV
  | none => [.bool false, .nil, .nil]
  | some x => eQ x
/-- a row of m elements, the first ones written -/
def fillO (l : List Rat) (m : Nat) : List (Option Rat) := l.map some ++ List.replicate (m - l.length) none
theorem fillO_nil (m : Nat) : fillO [] m = List.replicate m none := by simp [fillO]
theorem fillO_len {l : List Rat} {m : Nat} (h : l.length ≤ m) : (fillO l m).length = m := by simp [fillO]; omega
theorem fillO_set {l : List Rat} {m : Nat} {x : Rat} (h : l.length < m) : (fillO l m).set l.length (some x) = fillO (l ++ [x]) m := by
  unfold fillO
  have e : m - l.length = (m - (l ++ [x]).length) + 1 := by simp; omega
  rw [e, List.replicate_succ, List.set_append_right _ _ (by simp)]
  simp
theorem fillO_full {l : List Rat} {m : Nat} (h : l.length = m) : (fillO l m).map eO = l.map eQ := by
  unfold fillO
  rw [h, Nat.sub_self]
  simp [Function.comp_def]
abbrev eS (S : SysQ) : List AV := [.sl false (S.a.map fun r => [AV.sl false (r.map eQ)]), .sl false (S.b.map eQ), .sl false (S.c.map eQ)] ++ eQ S.d
theorem cl_eQs (l : List Rat) : CleanLL (l.map eQ) := cleanLL_map (fun x => by simp only [CleanL, Clean, and_true, true_and]; exact ⟨cl_dig _, cl_dig _⟩) l
theorem take_snoc' {l : List Rat} {i : Nat} {x : Rat} (h : l[i]? = some x) : l.take (i + 1) = l.take i ++ [x] := by
  rw [List.take_add_one, h]; rfl
theorem cl_three (a b : List Rat) (e : Int) : Clean (.tup [.sl false (a.map eQ), .sl false (b.map eQ), .int .i64 e]) := by
  simp only [Clean, CleanL, and_true, true_and]
  exact ⟨cl_eQs a, cl_eQs b⟩
theorem cl_eS (S : SysQ) : Clean (.agg (eS S)) := by
  have h : CleanLL (S.a.map fun r => [AV.sl false (r.map eQ)]) := cleanLL_map (fun r => by simp only [CleanL, Clean, and_true, true_and]; exact cl_eQs r) S.a
  simp only [Clean, List.cons_append, List.nil_append, CleanL, and_true, true_and]
  exact ⟨h, cl_eQs _, cl_eQs _, cl_dig _, cl_dig _⟩
end Go.Eng


/-
  Systems (layer 22): the program.
-/
namespace Go.Eng
open F
attribute [local irreducible] AKM CmpP Req OpP UnP ConvP RdP LdR StR MkR LenP AppR AppN CpyR RowP SnR Bds SlS CallP CalP FinP pw LdM GetM SetM PutM MkM AppM SnM FlP CallR
set_option maxHeartbeats 4000000
variable {L : Lib}
theorem ev_Sound (N : SysGLib L) (S : SysQ) (n k : Nat) (h : S.Ok n k) (hn : n ≤ 64) : Ev L 130 [.agg (eS S)] (.bool true) := by
  have h1 := h.la
  have h2 := h.lb
  have h3 := h.lc
  refine Ev.x N.network_Sound rfl rfl ?_
  (repeat' (first | (refine CmpP.go (fun hc => ?_) (fun hc => ?_) <;> first | (exfalso; omega) | (conv => whnf)) | (refine LenP.go ?_; conv => whnf) | (refine AKM.x ?_; conv => whnf)))
  refine AKM.loop1 (fun i => S.a.length - i) (fun (i : Nat) => i ≤ S.a.length) (fun i => [(28, .int .i64 i)]) (fun _ => []) [] [] 0 (by (conv => whnf); exact ⟨rfl, rfl, rfl⟩) (by omega) ?_
  intro i p1 ih
  by_cases hi : i < S.a.length
  · obtain ⟨r, hr⟩ : ∃ r, S.a[i]? = some r := ⟨_, List.getElem?_eq_getElem hi⟩
    have hr' : S.a[(i : Int).toNat]? = some r := hr
    have hrl := h.lr r (List.mem_of_getElem? hr)
    (repeat' (first | (refine CmpP.go (fun hc => ?_) (fun hc => ?_) <;> first | (exfalso; omega) | (conv => whnf)) | (refine OpP.add (by omega) ?_; conv => whnf) | (refine LenP.go ?_; conv => whnf) | (refine RdP.at (by assumption) (by omega) rfl ?_; conv => whnf) | (refine AKM.x ?_; conv => whnf)))
    exact AKM.back [] (by (conv => whnf); exact ⟨rfl, rfl, rfl⟩) (ih (i + 1) (by omega) (by omega))
  · obtain rfl : i = S.a.length := by omega
    clear ih
    (repeat' (first | (refine CmpP.go (fun hc => ?_) (fun hc => ?_) <;> first | (exfalso; omega) | (conv => whnf)) | (refine AKM.x ?_; conv => whnf)))
    exact FinP.b rfl
theorem ev_product (N : SysGLib L) (a b : List Rat) (q1 q2 : Bool) (k s : Nat) (hl : a.length = b.length) (ha : Bs k a) (hb : Bs s b) (hK : a.length * (k + s + 1) + k + s < 2199023255552) (hal : a.length ≤ 1099511627776) : Ev L 132 [.sl q1 (a.map eQ), .sl q2 (b.map eQ)] (.agg (eQ (dotQ a b))) := by
  have hO := ev_rational_Of N.toRatGLib 0 (by omega)
  refine Ev.x N.network_product rfl rfl ?_
  (repeat' (first | (refine LenP.go ?_; conv => whnf) | (refine AKM.x ?_; conv => whnf) | (refine CallP.go (hO) ?_; conv => whnf)))
  refine AKM.loop2 (fun i _ => a.length - i) (fun (i : Nat) (acc : Rat) => i ≤ a.length ∧ acc = dotQ (a.take i) (b.take i)) (fun i acc => [(11, .int .i64 i)]) (fun i acc => [(5, 5, .bx (eQ acc))]) [] [] 0 ((0 : Int) : Rat) (by (conv => whnf); exact ⟨rfl, rfl, rfl⟩) ⟨by omega, by simp [dotQ]⟩ ?_
  intro i acc ⟨p1, p2⟩ ih
  by_cases hi : i < a.length
  · obtain ⟨x, hx⟩ : ∃ x, a[i]? = some x := ⟨_, List.getElem?_eq_getElem hi⟩
    obtain ⟨y, hy⟩ : ∃ y, b[i]? = some y := ⟨_, List.getElem?_eq_getElem (by omega)⟩
    have hx' : a[(i : Int).toNat]? = some x := hx
    have hy' : b[(i : Int).toNat]? = some y := hy
    have bx := ha.at hx
    have by' := hb.at hy
    have hS1 := ev_signQ N.toRatGLib bx (by omega)
    have hS2 := ev_signQ N.toRatGLib by' (by omega)
    have hM := ev_mulQ N.toRatGLib bx by' (by omega) (by omega)
    have hacc : Bt (a.length * (k + s + 1)) acc := by
      rw [p2]
      have := (ha.take i).dot (hb.take i)
      refine this.le (Nat.mul_le_mul_right _ ?_)
      rw [List.length_take]; omega
    have hA := ev_addQ N.toRatGLib hacc (bx.mul by') (by omega) (by omega)
    have hst := dotQ_take hx hy
    have z1 := sgn_num (x := x)
    have z2 := sgn_num (x := y)
    generalize sgn x.num = sx at *
    generalize sgn y.num = sy at *
    by_cases h1 : sx = 0
    · have hx0 := z1.1 h1
      (repeat' (first | (refine CmpP.go (fun hc => ?_) (fun hc => ?_) <;> first | (exfalso; omega) | (conv => whnf)) | (refine OpP.add (by omega) ?_; conv => whnf) | (refine RdP.at (by assumption) (by omega) rfl ?_; conv => whnf) | (refine AKM.x ?_; conv => whnf) | (refine CallP.go (hS1) ?_; conv => whnf)))
      refine AKM.back [] (by (conv => whnf); exact ⟨rfl, rfl, rfl⟩) (ih (i + 1) acc (by omega) ⟨by omega, ?_⟩)
      rw [hst, hx0, Rat.zero_mul, Rat.add_zero]; exact p2
    · by_cases h2 : sy = 0
      · have hy0 := z2.1 h2
        (repeat' (first | (refine CmpP.go (fun hc => ?_) (fun hc => ?_) <;> first | (exfalso; omega) | (conv => whnf)) | (refine OpP.add (by omega) ?_; conv => whnf) | (refine RdP.at (by assumption) (by omega) rfl ?_; conv => whnf) | (refine AKM.x ?_; conv => whnf) | (refine CallP.go (hS1) ?_; conv => whnf) | (refine CallP.go (hS2) ?_; conv => whnf)))
        refine AKM.back [] (by (conv => whnf); exact ⟨rfl, rfl, rfl⟩) (ih (i + 1) acc (by omega) ⟨by omega, ?_⟩)
        rw [hst, hy0, Rat.mul_zero, Rat.add_zero]; exact p2
      · (repeat' (first | (refine CmpP.go (fun hc => ?_) (fun hc => ?_) <;> first | (exfalso; omega) | (conv => whnf)) | (refine OpP.add (by omega) ?_; conv => whnf) | (refine RdP.at (by assumption) (by omega) rfl ?_; conv => whnf) | (refine AKM.x ?_; conv => whnf) | (refine CallP.go (hS1) ?_; conv => whnf) | (refine CallP.go (hS2) ?_; conv => whnf) | (refine CallP.go (hM) ?_; conv => whnf) | (refine CallP.go (hA) ?_; conv => whnf)))
        refine AKM.back [] (by (conv => whnf); exact ⟨rfl, rfl, rfl⟩) (ih (i + 1) (acc + x * y) (by omega) ⟨by omega, ?_⟩)
        rw [hst, ← p2]
  · obtain rfl : i = a.length := by omega
    clear ih
    rw [dotQ_all rfl] at p2
    rw [← p2]
    (repeat' (first | (refine CmpP.go (fun hc => ?_) (fun hc => ?_) <;> first | (exfalso; omega) | (conv => whnf)) | (refine AKM.x ?_; conv => whnf)))
    exact FinP.go rfl (cl_eQ _)
theorem ev_Respond (N : SysGLib L) (S : SysQ) (n k s : Nat) (h : S.Ok n k) (hn : n ≤ 64) (st xs : List Rat) (q1 q2 : Bool) (hst : st.length = n) (bst : Bs s st) (bxs : Bs k xs) (hxl : xs.length ≤ 4096)
    (hK : ∀ i, i ≤ xs.length → respK n k s i < 1099511627776) (hs0 : s < 1099511627776) (hk0 : k < 1099511627776) :
    Ev L 133 [.agg (eS S), .sl q1 (st.map eQ), .sl q2 (xs.map eQ)] (.tup [.sl false ((S.outs st xs).map eQ), .sl false ((S.state st xs).map eQ), .int .i64 0]) := by
  have hSd := ev_Sound N S n k h hn
  have hla := h.la
  have hlb := h.lb
  have hlc := h.lc
  refine Ev.x N.network_Respond rfl rfl ?_
  (repeat' (first | (refine CmpP.go (fun hc => ?_) (fun hc => ?_) <;> first | (exfalso; omega) | (conv => whnf)) | (refine LenP.go ?_; conv => whnf) | (refine AKM.x ?_; conv => whnf) | (refine CallP.go (hSd) ?_; conv => whnf)))
  refine MkR.go (enc := eO) none st.length rfl rfl (by omega) ?_
  (conv => whnf)
  (repeat' (refine LenP.go ?_; conv => whnf))
  refine AKM.loop1 (fun i => st.length - i) (fun (i : Nat) => i ≤ st.length) (fun i => [(35, .int .i64 i)]) (fun i => [(32, 32, .rw 3 ((fillO (st.take i) st.length).map eO))]) [] [] 0 (by first | exact (by (conv => whnf); exact ⟨rfl, rfl, rfl⟩) | (rw [List.take_zero, ← fillO_nil]; exact (by (conv => whnf); exact ⟨rfl, rfl, rfl⟩))) (by omega) ?_
  intro i p1 ih
  by_cases hi : i < st.length
  · obtain ⟨x, hx⟩ : ∃ x, st[i]? = some x := ⟨_, List.getElem?_eq_getElem hi⟩
    have hx' : st[(i : Int).toNat]? = some x := hx
    have hT := ev_trimQ N.toRatGLib (bst.at hx) (by omega)
    have hl := fillO_len (l := st.take i) (m := st.length) (by rw [List.length_take]; omega)
    have hs := fillO_set (l := st.take i) (m := st.length) (x := x) (by rw [List.length_take]; omega)
    rw [List.length_take, Nat.min_eq_left (by omega), ← take_snoc' hx] at hs
    (repeat' (first | (refine CmpP.go (fun hc => ?_) (fun hc => ?_) <;> first | (exfalso; omega) | (conv => whnf)) | (refine Req.go (by omega) ?_; conv => whnf) | (refine RdP.at (by assumption) (by omega) rfl ?_; conv => whnf) | (refine AKM.x ?_; conv => whnf) | (refine CallP.go (hT) ?_; conv => whnf)))
    refine StR.nat (enc := eO) (some x) rfl (fun e => by cases e <;> rfl) (by omega) ?_
    (conv => whnf)
    (repeat' (refine OpP.add (by omega) ?_; conv => whnf))
    rw [hs]
    exact AKM.back [] (by (conv => whnf); exact ⟨rfl, rfl, rfl⟩) (ih (i + 1) (by omega) (by omega))
  obtain rfl : i = st.length := by omega
  clear ih
  rw [List.take_of_length_le (Nat.le_refl _), fillO_full rfl]
  (repeat' (first | (refine CmpP.go (fun hc => ?_) (fun hc => ?_) <;> first | (exfalso; omega) | (conv => whnf)) | (refine LenP.go ?_; conv => whnf) | (refine AKM.x ?_; conv => whnf)))
  refine MkR.go (enc := eO) none 0 rfl rfl (by omega) ?_
  (conv => whnf)
  (repeat' (refine LenP.go ?_; conv => whnf))
  refine AKM.loop4 (fun i _ _ _ => xs.length - i) (fun (i : Nat) (nw os : List Rat) (_ : Nat) => i ≤ xs.length ∧ nw = S.state st (xs.take i) ∧ os = S.outs st (xs.take i)) (fun i nw os _ => [(51, .int .i64 i), (12, .row 48 0 3 0 os.length), (9, .row 32 0 3 0 nw.length)]) (fun i nw os t => [(48, 48, .rw 3 (os.map eQ)), (32, t, .rw 3 (nw.map eQ))]) [] [] 0 st [] 32 (by (conv => whnf); exact ⟨rfl, rfl, rfl⟩) ⟨by omega, rfl, rfl⟩ ?_
  intro i nw os t ⟨p1, p2, p3⟩ ih
  have hnl : nw.length = n := by rw [p2]; exact h.state_len _ _ hst
  have hol : os.length = i := by rw [p3, outs_len, List.length_take]; omega
  by_cases hi : i < xs.length
  · obtain ⟨x, hx⟩ : ∃ x, xs[i]? = some x := ⟨_, List.getElem?_eq_getElem hi⟩
    have hx' : xs[(i : Int).toNat]? = some x := hx
    have bx := bxs.at hx
    have bnw : Bs (respK n k s i) nw := by
      have := h.state_bs (xs.take i) st s hst bst (bxs.take i)
      rw [List.length_take, Nat.min_eq_left (by omega)] at this
      rw [p2]; exact this
    have hk1 := hK i (by omega)
    have hk2 := hK (i + 1) (by omega)
    rw [respK_succ] at hk2
    obtain ⟨bn, bo⟩ := h.next_bs hnl bnw bx
    have hst2 : S.state st (xs.take (i + 1)) = S.next nw x := by rw [take_snoc' hx, state_snoc, ← p2]
    have hos2 : S.outs st (xs.take (i + 1)) = os ++ [S.out nw x] := by rw [take_snoc' hx, outs_snoc, ← p2, ← p3]
    generalize hkk : respK n k s i = kk at *
    have hkk2 : n * (k + kk + 1) + (k + k) + 1 < 1099511627776 := by unfold stepK at hk2; exact hk2
    have hP := fun q q' => ev_product N S.c nw q q' k kk (by omega) h.bc bnw (by rw [hlc]; omega) (by omega)
    have hM1 := ev_mulQ N.toRatGLib h.bd bx (by omega) (by omega)
    have bd1 := h.bc.dot bnw
    rw [hlc] at bd1
    have hA1 := ev_addQ N.toRatGLib bd1 (h.bd.mul bx) (by omega) (by omega)
    (repeat' (first | (refine CmpP.go (fun hc => ?_) (fun hc => ?_) <;> first | (exfalso; omega) | (conv => whnf)) | (refine RdP.at (by assumption) (by omega) rfl ?_; conv => whnf) | (refine SnR.all (fun _ => rfl) rfl (by first | rfl | simp) ?_; conv => whnf) | (refine RowP.e1 ?_; conv => whnf) | (refine AKM.x ?_; conv => whnf) | (refine CallP.go (hP _ _) ?_; conv => whnf) | (refine CallP.go (hM1) ?_; conv => whnf) | (refine CallP.go (hA1) ?_; conv => whnf)))
    refine AppR.one (enc := eQ) (S.out nw x) rfl rfl rfl (by omega) (by omega) ?_
    (conv => whnf)
    skip
    refine MkR.go (enc := eO) none nw.length rfl rfl (by omega) ?_
    (conv => whnf)
    (repeat' (refine LenP.go ?_; conv => whnf))
    have hnl2 := h.next_len nw x
    generalize hNx : S.next nw x = nx at *
    refine AKM.loop1 (fun j => S.a.length - j) (fun (j : Nat) => j ≤ S.a.length) (fun j => [(73, .int .i64 j)]) (fun j => [(69, 69, .rw 3 ((fillO (nx.take j) nw.length).map eO))]) [] [] 0 (by first | exact (by (conv => whnf); exact ⟨rfl, rfl, rfl⟩) | (rw [List.take_zero, ← fillO_nil]; exact (by (conv => whnf); exact ⟨rfl, rfl, rfl⟩))) (by omega) ?_
    intro j r1 jh
    by_cases hj : j < S.a.length
    · obtain ⟨r, hr⟩ : ∃ r, S.a[j]? = some r := ⟨_, List.getElem?_eq_getElem hj⟩
      obtain ⟨b, hb0⟩ : ∃ b, S.b[j]? = some b := ⟨_, List.getElem?_eq_getElem (by omega)⟩
      have hr' : S.a[(j : Int).toNat]? = some r := hr
      have hb' : S.b[(j : Int).toNat]? = some b := hb0
      have hrl := h.lr r (List.mem_of_getElem? hr)
      have bb := h.bb.at hb0
      have hP2 := fun q q' => ev_product N r nw q q' k kk (by omega) (h.ba r (List.mem_of_getElem? hr)) bnw (by rw [hrl]; omega) (by omega)
      have hM2 := ev_mulQ N.toRatGLib bb bx (by omega) (by omega)
      have bd2 := (h.ba r (List.mem_of_getElem? hr)).dot bnw
      rw [hrl] at bd2
      have hA2 := ev_addQ N.toRatGLib bd2 (bb.mul bx) (by omega) (by omega)
      have hnj : nx[j]? = some (dotQ r nw + b * x) := by rw [← hNx]; exact nextQ_at nw x S.a S.b j r b hr hb0
      have hl := fillO_len (l := nx.take j) (m := nw.length) (by rw [List.length_take]; omega)
      have hs := fillO_set (l := nx.take j) (m := nw.length) (x := dotQ r nw + b * x) (by rw [List.length_take]; omega)
      rw [List.length_take, Nat.min_eq_left (by omega), ← take_snoc' hnj] at hs
      generalize dotQ r nw + b * x = y at *
      (repeat' (first | (refine CmpP.go (fun hc => ?_) (fun hc => ?_) <;> first | (exfalso; omega) | (conv => whnf)) | (refine Req.go (by omega) ?_; conv => whnf) | (refine RdP.at (by assumption) (by omega) rfl ?_; conv => whnf) | (refine SnR.all (fun _ => rfl) rfl (by first | rfl | simp) ?_; conv => whnf) | (refine AKM.x ?_; conv => whnf) | (refine CallP.go (hP2 _ _) ?_; conv => whnf) | (refine CallP.go (hM2) ?_; conv => whnf) | (refine CallP.go (hA2) ?_; conv => whnf)))
      refine StR.nat (enc := eO) (some y) rfl (fun e => by cases e <;> rfl) (by omega) ?_
      (conv => whnf)
      (repeat' (refine OpP.add (by omega) ?_; conv => whnf))
      rw [hs]
      exact AKM.back [] (by (conv => whnf); exact ⟨rfl, rfl, rfl⟩) (jh (j + 1) (by omega) (by omega))
    · obtain rfl : j = S.a.length := by omega
      clear jh
      rw [List.take_of_length_le (by omega), fillO_full (by omega)]
      rw [show nw.length = nx.length by omega]
      (repeat' (first | (refine CmpP.go (fun hc => ?_) (fun hc => ?_) <;> first | (exfalso; omega) | (conv => whnf)) | (refine OpP.add (by omega) ?_; conv => whnf) | (refine AKM.x ?_; conv => whnf)))
      refine AKM.back [(32, 69), (48, 66)] (by (conv => whnf); exact ⟨rfl, rfl, rfl⟩) (ih (i + 1) nx (os ++ [S.out nw x]) 69 (by omega) ⟨by omega, by rw [hst2], by rw [hos2]⟩)
  · obtain rfl : i = xs.length := by omega
    clear ih
    rw [List.take_of_length_le (Nat.le_refl _)] at p2 p3
    rw [← p2, ← p3]
    (repeat' (first | (refine CmpP.go (fun hc => ?_) (fun hc => ?_) <;> first | (exfalso; omega) | (conv => whnf)) | (refine SnR.all (fun _ => rfl) rfl (by first | rfl | simp) ?_; conv => whnf) | (refine AKM.x ?_; conv => whnf)))
    exact FinP.go rfl (cl_three _ _ _)
end Go.Eng


/-
  The references of natural numbers (ref01).
-/
namespace Go.Eng
open F
attribute [local irreducible] AKM CmpP Req OpP UnP ConvP RdP LdR StR MkR LenP AppR AppN CpyR RowP SnR Bds SlS CallP CalP FinP pw LdM GetM SetM PutM MkM AppM SnM FlP CallR
set_option maxHeartbeats 4000000
variable {L : Lib}
theorem cl_sl (l : List Nat) : Clean (.sl false (l.map e32)) := by
  simp only [Clean, true_and]; exact cl_dig l
theorem ev_r1_Trim (N : RefGLib L) (l : List Nat) (q : Bool) (hD : Dig l) (hl : l.length ≤ 1099511627776) : Ev L 101 [.sl q (l.map e32)] (.sl false ((dg (val l)).map e32)) := by
  refine Ev.x N.ref01_Trim rfl rfl ?_
  (repeat' (first | (refine LenP.go ?_; conv => whnf) | (refine AKM.x ?_; conv => whnf)))
  refine AKM.loop1 (fun n => n) (fun (n : Nat) => n ≤ l.length ∧ ∀ i, n ≤ i → i < l.length → l[i]? = some 0) (fun n => [(3, .int .i64 n)]) (fun _ => []) [] [] l.length (by (conv => whnf); exact ⟨rfl, rfl, rfl⟩) ⟨Nat.le_refl _, fun i h1 h2 => by omega⟩ ?_
  intro n ⟨p1, p2⟩ ih
  rcases n with _ | n
  · have hv := cut_found hD p1 p2 (Or.inl rfl)
    rw [← hv]
    clear ih
    (repeat' (first | (refine CmpP.go (fun hc => ?_) (fun hc => ?_) <;> first | (exfalso; omega) | (conv => whnf)) | (refine AKM.x ?_; conv => whnf)))
    refine SlS.to (k := 0) (fun _ => rfl) (by omega) ?_
    (conv => whnf)
    refine AppN.many (enc := e32) (fun _ => rfl) (by rw [List.length_take]; omega) (by rw [List.length_take]; omega) ?_
    (conv => whnf)
    (repeat' (refine SnR.all (fun _ => rfl) rfl (by first | rfl | simp) ?_; conv => whnf))
    exact FinP.go rfl (cl_sl _)
  · have e1 : ((n + 1 : Nat) : Int) - 1 = n := by omega
    (repeat' (first | (refine CmpP.go (fun hc => ?_) (fun hc => ?_) <;> first | (exfalso; omega) | (conv => whnf)) | (refine OpP.sub (by omega) ?_; conv => whnf) | (refine RdP.digi (by assumption) (by omega) (fun e he hb => ?_); conv => whnf) | (refine AKM.x ?_; conv => whnf)))
    · rw [e1]
      exact AKM.back [] (by (conv => whnf); exact ⟨rfl, rfl, rfl⟩) (ih n (by omega) ⟨by omega, fun i h1 h2 => by
        by_cases h : i = n
        · subst h
          rw [e1, Int.toNat_natCast] at he
          rw [he]; congr 1; omega
        · exact p2 i (by omega) h2⟩)
    · rw [e1, Int.toNat_natCast] at he
      have hv := cut_found hD p1 p2 (Or.inr ⟨e, he, by omega⟩)
      rw [← hv]
      clear ih
      refine SlS.to (k := n + 1) (fun _ => rfl) (by omega) ?_
      (conv => whnf)
      refine AppN.many (enc := e32) (fun _ => rfl) (by rw [List.length_take]; omega) (by rw [List.length_take]; omega) ?_
      (conv => whnf)
      (repeat' (refine SnR.all (fun _ => rfl) rfl (by first | rfl | simp) ?_; conv => whnf))
      exact FinP.go rfl (cl_sl _)
theorem ev_r1_Compare (N : RefGLib L) (a b : List Nat) (q1 q2 : Bool) (hA : Dig a) (hB : Dig b) (la : a.length ≤ 1099511627776) (lb : b.length ≤ 1099511627776) : Ev L 102 [.sl q1 (a.map e32), .sl q2 (b.map e32)] (.int .i64 (cmpS (val a) (val b))) := by
  have t1 := fun q => ev_r1_Trim N a q hA la
  have t2 := fun q => ev_r1_Trim N b q hB lb
  have l1 := dg_len_val hA
  have l2 := dg_len_val hB
  have d1 := dig_dg (val a)
  have d2 := dig_dg (val b)
  refine Ev.x N.ref01_Compare rfl rfl ?_
  by_cases hlen : (dg (val a)).length = (dg (val b)).length
  · have v1 := val_dg (val a)
    have v2 := val_dg (val b)
    generalize dg (val a) = X at *
    generalize dg (val b) = Y at *
    (repeat' (first | (refine CmpP.go (fun hc => ?_) (fun hc => ?_) <;> first | (exfalso; omega) | (conv => whnf)) | (refine OpP.sub (by omega) ?_; conv => whnf) | (refine LenP.go ?_; conv => whnf) | (refine AKM.x ?_; conv => whnf) | (refine CallP.go (t1 _) ?_; conv => whnf) | (refine CallP.go (t2 _) ?_; conv => whnf)))
    refine AKM.loop1 (fun n => n) (fun (n : Nat) => n ≤ X.length ∧ X.drop n = Y.drop n) (fun n => [(5, .int .i64 ((n : Int) - 1))]) (fun _ => []) [] [] X.length (by (conv => whnf); exact ⟨rfl, rfl, rfl⟩) ⟨Nat.le_refl _, by rw [List.drop_of_length_le (Nat.le_refl _), List.drop_of_length_le (by omega)]⟩ ?_
    intro n ⟨p1, p2⟩ ih
    rcases n with _ | n
    · (repeat' (first | (refine CmpP.go (fun hc => ?_) (fun hc => ?_) <;> first | (exfalso; omega) | (conv => whnf)) | (refine AKM.x ?_; conv => whnf)))
      rw [List.drop_zero, List.drop_zero] at p2
      exact FinP.i (cmpS_eq (by rw [← v1, ← v2, p2]))
    · have e1 : ((n + 1 : Nat) : Int) - 1 = n := by omega
      rw [e1]
      obtain ⟨x, hx⟩ : ∃ x, X[n]? = some x := ⟨_, List.getElem?_eq_getElem (by omega)⟩
      obtain ⟨y, hy⟩ : ∃ y, Y[n]? = some y := ⟨_, List.getElem?_eq_getElem (by omega)⟩
      rcases Nat.lt_trichotomy x y with h | h | h
      · have := val_lt_of_drop d1 d2 hlen hx hy p2 h
        (repeat' (first | (refine CmpP.go (fun hc => ?_) (fun hc => ?_) <;> first | (exfalso; omega) | (conv => whnf)) | (refine RdP.at (by assumption) (by omega) rfl ?_; conv => whnf) | (refine AKM.x ?_; conv => whnf)))
        exact FinP.i (cmpS_lt (by omega))
      · subst h
        (repeat' (first | (refine CmpP.go (fun hc => ?_) (fun hc => ?_) <;> first | (exfalso; omega) | (conv => whnf)) | (refine OpP.sub (by omega) ?_; conv => whnf) | (refine RdP.at (by assumption) (by omega) rfl ?_; conv => whnf) | (refine AKM.x ?_; conv => whnf)))
        refine AKM.back [] (by (conv => whnf); exact ⟨rfl, rfl, rfl⟩) (ih n (by omega) ⟨by omega, ?_⟩)
        obtain ⟨i1, e1⟩ := List.getElem?_eq_some_iff.1 hx
        obtain ⟨i2, e2⟩ := List.getElem?_eq_some_iff.1 hy
        rw [List.drop_eq_getElem_cons i1, List.drop_eq_getElem_cons i2, p2, e1, e2]
      · have := val_lt_of_drop d2 d1 hlen.symm hy hx p2.symm h
        (repeat' (first | (refine CmpP.go (fun hc => ?_) (fun hc => ?_) <;> first | (exfalso; omega) | (conv => whnf)) | (refine RdP.at (by assumption) (by omega) rfl ?_; conv => whnf) | (refine AKM.x ?_; conv => whnf)))
        exact FinP.i (cmpS_gt (by omega))
  · rcases Nat.lt_trichotomy (dg (val a)).length (dg (val b)).length with h1 | h1 | h1
    · have := val_lt_of_len h1
      (repeat' (first | (refine CmpP.go (fun hc => ?_) (fun hc => ?_) <;> first | (exfalso; omega) | (conv => whnf)) | (refine LenP.go ?_; conv => whnf) | (refine AKM.x ?_; conv => whnf) | (refine CallP.go (t1 _) ?_; conv => whnf) | (refine CallP.go (t2 _) ?_; conv => whnf)))
      exact FinP.i (cmpS_lt (by omega))
    · exact absurd h1 hlen
    · have := val_lt_of_len h1
      (repeat' (first | (refine CmpP.go (fun hc => ?_) (fun hc => ?_) <;> first | (exfalso; omega) | (conv => whnf)) | (refine LenP.go ?_; conv => whnf) | (refine AKM.x ?_; conv => whnf) | (refine CallP.go (t1 _) ?_; conv => whnf) | (refine CallP.go (t2 _) ?_; conv => whnf)))
      exact FinP.i (cmpS_gt (by omega))
theorem val_take_get {y : List Nat} (i : Nat) : val (y.take (i + 1)) = val (y.take i) + 4294967296 ^ i * y.getD i 0 := by
  rcases Nat.lt_or_ge i y.length with h | h
  · rw [val_take_succ (List.getElem?_eq_getElem h), getD_is (List.getElem?_eq_getElem h)]
  · rw [← getD_none h, val_take_all h, val_take_all (by omega)]; omega
theorem ev_r1_Add (N : RefGLib L) (a b : List Nat) (q1 q2 : Bool) (hA : Dig a) (hB : Dig b) (la : a.length ≤ 549755813888) (lb : b.length ≤ 549755813888) : Ev L 103 [.sl q1 (a.map e32), .sl q2 (b.map e32)] (.sl false ((dg (val a + val b)).map e32)) := by
  refine Ev.x N.ref01_Add rfl rfl ?_
  (repeat' (refine AKM.x ?_; conv => whnf))
  refine AKM.loop3 (fun i _ _ => a.length + b.length - i) (fun (i : Nat) (o : List Nat) (c : Nat) => (i ≤ a.length ∨ i ≤ b.length) ∧ o.length = i ∧ Dig o ∧ c ≤ 1 ∧ val o + 4294967296 ^ i * c = val (a.take i) + val (b.take i)) (fun i o c => [(7, .int .i64 i), (6, .int .u64 (c : Int)), (5, .row 5 0 1 0 o.length)]) (fun i o c => [(5, 5, .rw 1 (o.map e32))]) [] [] 0 [] 0 (by (conv => whnf); exact ⟨rfl, rfl, rfl⟩) ⟨by omega, rfl, dig_nil, by omega, by simp [val]⟩ ?_
  intro i o c ⟨p1, p2, p3, p4, p5⟩ ih
  by_cases hi : i < a.length ∨ i < b.length
  · have g1 := val_take_get (y := a) i
    have g2 := val_take_get (y := b) i
    have k1 := getD_lt hA i
    have k2 := getD_lt hB i
    have hst : ∀ t, t = c + a.getD i 0 + b.getD i 0 → val (o ++ [t % 4294967296]) + 4294967296 ^ (i + 1) * (t / 4294967296) = val (a.take (i + 1)) + val (b.take (i + 1)) := fun t ht => by
      have h3 := carry_step (val o) (4294967296 ^ i) t
      rw [val_snoc, p2, g1, g2, Nat.pow_succ]
      rw [h3, ht, Nat.mul_add, Nat.mul_add]
      omega
    by_cases h1 : i < a.length
    · obtain ⟨x, hx⟩ : ∃ x, a[i]? = some x := ⟨_, List.getElem?_eq_getElem h1⟩
      have hxb := hA.at hx
      rw [getD_is hx] at hst
      by_cases h2 : i < b.length
      · obtain ⟨y, hy⟩ : ∃ y, b[i]? = some y := ⟨_, List.getElem?_eq_getElem h2⟩
        have hyb := hB.at hy
        rw [getD_is hy] at hst
        (repeat' (first | (refine CmpP.go (fun hc => ?_) (fun hc => ?_) <;> first | (exfalso; omega) | (conv => whnf)) | (refine OpP.nadd (by omega) ?_; conv => whnf) | (refine ConvP.u64 (by omega) ?_; conv => whnf) | (refine ConvP.n32 ?_; conv => whnf) | (refine LenP.go ?_; conv => whnf) | (refine RdP.at (by assumption) (by omega) rfl ?_; conv => whnf) | (refine RowP.e1 ?_; conv => whnf) | (refine AKM.x ?_; conv => whnf)))
        refine AppR.one (enc := e32) (((c + x + y) % 4294967296 : Nat)) rfl rfl rfl (by omega) (by omega) ?_
        (conv => whnf)
        (repeat' (first | (refine OpP.add (by omega) ?_; conv => whnf) | (refine OpP.nshr32 ?_; conv => whnf)))
        refine AKM.back [(5, 46)] (by (conv => whnf); exact ⟨rfl, rfl, rfl⟩) (ih (i + 1) (o ++ [(c + x + y) % 4294967296]) ((c + x + y) / 4294967296) (by omega) ⟨by omega, by simp; omega, p3.append (dig_one (by omega)), by omega, ?_⟩)
        exact hst (c + x + y) (by omega)
      · rw [← getD_none (show b.length ≤ i by omega)] at hst
        (repeat' (first | (refine CmpP.go (fun hc => ?_) (fun hc => ?_) <;> first | (exfalso; omega) | (conv => whnf)) | (refine OpP.nadd (by omega) ?_; conv => whnf) | (refine ConvP.u64 (by omega) ?_; conv => whnf) | (refine ConvP.n32 ?_; conv => whnf) | (refine LenP.go ?_; conv => whnf) | (refine RdP.at (by assumption) (by omega) rfl ?_; conv => whnf) | (refine RowP.e1 ?_; conv => whnf) | (refine AKM.x ?_; conv => whnf)))
        refine AppR.one (enc := e32) (((c + x) % 4294967296 : Nat)) rfl rfl rfl (by omega) (by omega) ?_
        (conv => whnf)
        (repeat' (first | (refine OpP.add (by omega) ?_; conv => whnf) | (refine OpP.nshr32 ?_; conv => whnf)))
        refine AKM.back [(5, 46)] (by (conv => whnf); exact ⟨rfl, rfl, rfl⟩) (ih (i + 1) (o ++ [(c + x) % 4294967296]) ((c + x) / 4294967296) (by omega) ⟨by omega, by simp; omega, p3.append (dig_one (by omega)), by omega, ?_⟩)
        exact hst (c + x) (by omega)
    · obtain ⟨y, hy⟩ : ∃ y, b[i]? = some y := ⟨_, List.getElem?_eq_getElem (by omega)⟩
      have hyb := hB.at hy
      rw [getD_is hy, ← getD_none (show a.length ≤ i by omega)] at hst
      (repeat' (first | (refine CmpP.go (fun hc => ?_) (fun hc => ?_) <;> first | (exfalso; omega) | (conv => whnf)) | (refine OpP.nadd (by omega) ?_; conv => whnf) | (refine ConvP.u64 (by omega) ?_; conv => whnf) | (refine ConvP.n32 ?_; conv => whnf) | (refine LenP.go ?_; conv => whnf) | (refine RdP.at (by assumption) (by omega) rfl ?_; conv => whnf) | (refine RowP.e1 ?_; conv => whnf) | (refine AKM.x ?_; conv => whnf)))
      refine AppR.one (enc := e32) (((c + y) % 4294967296 : Nat)) rfl rfl rfl (by omega) (by omega) ?_
      (conv => whnf)
      (repeat' (first | (refine OpP.add (by omega) ?_; conv => whnf) | (refine OpP.nshr32 ?_; conv => whnf)))
      refine AKM.back [(5, 46)] (by (conv => whnf); exact ⟨rfl, rfl, rfl⟩) (ih (i + 1) (o ++ [(c + y) % 4294967296]) ((c + y) / 4294967296) (by omega) ⟨by omega, by simp; omega, p3.append (dig_one (by omega)), by omega, ?_⟩)
      exact hst (c + y) (by omega)
  · clear ih
    have hv : val (o ++ [c]) = val a + val b := by
      rw [val_take_all (by omega), val_take_all (by omega)] at p5
      rw [val_snoc, p2, p5]
    have hT := fun q => ev_r1_Trim N (o ++ [c]) q (p3.append (dig_one (by omega))) (by simp; omega)
    rw [hv] at hT
    (repeat' (first | (refine CmpP.go (fun hc => ?_) (fun hc => ?_) <;> first | (exfalso; omega) | (conv => whnf)) | (refine ConvP.n32i (by omega) ?_; conv => whnf) | (refine LenP.go ?_; conv => whnf) | (refine RowP.e1 ?_; conv => whnf) | (refine AKM.x ?_; conv => whnf)))
    refine AppR.one (enc := e32) c rfl rfl rfl (by omega) (by omega) ?_
    (conv => whnf)
    (repeat' (first | (refine SnR.all (fun _ => rfl) rfl (by first | rfl | simp) ?_; conv => whnf) | (refine CallP.go (hT _) ?_; conv => whnf)))
    exact FinP.go rfl (cl_sl _)
theorem cmpS_ge {a b : Nat} (h : b ≤ a) : 0 ≤ cmpS a b := by unfold cmpS; split <;> (try split) <;> omega
theorem rsub_step {V Y X p d e bw have' take w bw' : Nat} (h : V + Y = X + p * bw) (h1 : take = bw + e) (h2 : (have' = d ∧ bw' = 0 ∧ take ≤ d) ∨ (have' = d + 4294967296 ∧ bw' = 1 ∧ d < take)) (h3 : w + take = have') : V + p * w + (Y + p * e) = X + p * d + p * 4294967296 * bw' := by
  have h4 : w + bw + e = d + 4294967296 * bw' := by omega
  have h5 : p * (w + bw + e) = p * (d + 4294967296 * bw') := by rw [h4]
  rw [Nat.mul_add, Nat.mul_add, Nat.mul_add, ← Nat.mul_assoc] at h5
  omega
theorem r1_sub_main (N : RefGLib L) (x y : List Nat) (hX : Dig x) (hY : Dig y) (lx : x.length ≤ 549755813888) (ly : y.length ≤ 549755813888) (hle : val y ≤ val x) :
    AKM L [It.lp ref01_Sub.l1, It.blk 0, It.code (((ACode.ops ref01_Sub.r18 false).dr [1, 5, 6, 7, 21, 53, 54] []).seq ACode.ret)]
    [(7, AV.int IntKind.i64 0), (6, AV.int IntKind.u64 0), (5, AV.row 101021 0 1 0 x.length), (1, AV.sl false (List.map e32 y))]
    [(101021, 101021, Cel.rw 1 (List.map e32 x))]
    (RetX ref01_Sub (AV.sl false (List.map e32 (dg (val x - val y))))) := by
  refine AKM.loop3 (fun i _ _ => x.length - i) (fun (i : Nat) (o : List Nat) (bw : Nat) => i ≤ x.length ∧ o.length = x.length ∧ Dig o ∧ bw ≤ 1 ∧ o.drop i = x.drop i ∧ val (o.take i) + val (y.take i) = val (x.take i) + 4294967296 ^ i * bw) (fun i o bw => [(7, .int .i64 i), (6, .int .u64 (bw : Int))]) (fun i o bw => [(101021, 101021, .rw 1 (o.map e32))]) [] [] 0 x 0 (by (conv => whnf); exact ⟨rfl, rfl, rfl⟩) ⟨by omega, rfl, hX, by omega, rfl, by simp [val]⟩ ?_
  intro i o bw ⟨p1, p2, p3, p4, p5, p6⟩ ih
  by_cases hi : i < x.length
  · obtain ⟨d, hd⟩ : ∃ d, o[i]? = some d := ⟨_, List.getElem?_eq_getElem (by omega)⟩
    have hdb := p3.at hd
    have hxi : x[i]? = some d := by
      have e1 : (o.drop i)[0]? = (x.drop i)[0]? := by rw [p5]
      simpa [hd] using e1.symm
    have g1 := val_take_succ hxi
    have g2 := val_take_get (y := y) i
    have ge := getD_lt hY i
    have hst : ∀ have' take w bw', take = bw + y.getD i 0 → ((have' = d ∧ bw' = 0 ∧ take ≤ d) ∨ (have' = d + 4294967296 ∧ bw' = 1 ∧ d < take)) → w + take = have' → val ((o.set i w).take (i + 1)) + val (y.take (i + 1)) = val (x.take (i + 1)) + 4294967296 ^ (i + 1) * bw' := fun have' take w bw' a1 a2 a3 => by
      rw [val_set_take (by omega), g1, g2, Nat.pow_succ]
      exact rsub_step p6 a1 a2 a3
    have hdr : ∀ w, (o.set i w).drop (i + 1) = x.drop (i + 1) := fun w => by
      rw [List.drop_set_of_lt (by omega)]
      have e1 : (o.drop i).drop 1 = (x.drop i).drop 1 := by rw [p5]
      simpa using e1
    by_cases hy : i < y.length
    · obtain ⟨e, he⟩ : ∃ e, y[i]? = some e := ⟨_, List.getElem?_eq_getElem hy⟩
      have heb := hY.at he
      rw [getD_is he] at hst
      by_cases hlt : d < bw + e
      · have h3 := hst (d + 4294967296) (bw + e) (d + 4294967296 - (bw + e)) 1 (by omega) (Or.inr ⟨rfl, rfl, hlt⟩) (by omega)
        (repeat' (first | (refine CmpP.go (fun hc => ?_) (fun hc => ?_) <;> first | (exfalso; omega) | (conv => whnf)) | (refine Req.go (by omega) ?_; conv => whnf) | (refine OpP.nadd (by omega) ?_; conv => whnf) | (refine OpP.nsub (by omega) (by omega) ?_; conv => whnf) | (refine OpP.naddB (by omega) ?_; conv => whnf) | (refine ConvP.u64 (by omega) ?_; conv => whnf) | (refine ConvP.n32i (by omega) ?_; conv => whnf) | (refine LenP.go ?_; conv => whnf) | (refine RdP.at (by assumption) (by omega) rfl ?_; conv => whnf) | (refine LdR.dat (by assumption) ?_; conv => whnf) | (refine AKM.x ?_; conv => whnf)))
        refine StR.dig (by omega) ?_
        (conv => whnf)
        (repeat' (refine OpP.add (by omega) ?_; conv => whnf))
        exact AKM.back [] (by (conv => whnf); exact ⟨rfl, rfl, rfl⟩) (ih (i + 1) (o.set i (d + 4294967296 - (bw + e))) 1 (by omega) ⟨by omega, by simpa using p2, p3.set _ (by omega), by omega, hdr _, h3⟩)
      · have h3 := hst d (bw + e) (d - (bw + e)) 0 (by omega) (Or.inl ⟨rfl, rfl, by omega⟩) (by omega)
        (repeat' (first | (refine CmpP.go (fun hc => ?_) (fun hc => ?_) <;> first | (exfalso; omega) | (conv => whnf)) | (refine Req.go (by omega) ?_; conv => whnf) | (refine OpP.nadd (by omega) ?_; conv => whnf) | (refine OpP.nsub (by omega) (by omega) ?_; conv => whnf) | (refine ConvP.u64 (by omega) ?_; conv => whnf) | (refine ConvP.n32i (by omega) ?_; conv => whnf) | (refine LenP.go ?_; conv => whnf) | (refine RdP.at (by assumption) (by omega) rfl ?_; conv => whnf) | (refine LdR.dat (by assumption) ?_; conv => whnf) | (refine AKM.x ?_; conv => whnf)))
        refine StR.dig (by omega) ?_
        (conv => whnf)
        (repeat' (refine OpP.add (by omega) ?_; conv => whnf))
        exact AKM.back [] (by (conv => whnf); exact ⟨rfl, rfl, rfl⟩) (ih (i + 1) (o.set i (d - (bw + e))) 0 (by omega) ⟨by omega, by simpa using p2, p3.set _ (by omega), by omega, hdr _, h3⟩)
    · rw [← getD_none (show y.length ≤ i by omega)] at hst
      by_cases hlt : d < bw
      · have h3 := hst (d + 4294967296) (bw) (d + 4294967296 - (bw)) 1 (by omega) (Or.inr ⟨rfl, rfl, hlt⟩) (by omega)
        (repeat' (first | (refine CmpP.go (fun hc => ?_) (fun hc => ?_) <;> first | (exfalso; omega) | (conv => whnf)) | (refine Req.go (by omega) ?_; conv => whnf) | (refine OpP.nsub (by omega) (by omega) ?_; conv => whnf) | (refine OpP.naddB (by omega) ?_; conv => whnf) | (refine ConvP.u64 (by omega) ?_; conv => whnf) | (refine ConvP.n32i (by omega) ?_; conv => whnf) | (refine LenP.go ?_; conv => whnf) | (refine LdR.dat (by assumption) ?_; conv => whnf) | (refine AKM.x ?_; conv => whnf)))
        refine StR.dig (by omega) ?_
        (conv => whnf)
        (repeat' (refine OpP.add (by omega) ?_; conv => whnf))
        exact AKM.back [] (by (conv => whnf); exact ⟨rfl, rfl, rfl⟩) (ih (i + 1) (o.set i (d + 4294967296 - (bw))) 1 (by omega) ⟨by omega, by simpa using p2, p3.set _ (by omega), by omega, hdr _, h3⟩)
      · have h3 := hst d (bw) (d - (bw)) 0 (by omega) (Or.inl ⟨rfl, rfl, by omega⟩) (by omega)
        (repeat' (first | (refine CmpP.go (fun hc => ?_) (fun hc => ?_) <;> first | (exfalso; omega) | (conv => whnf)) | (refine Req.go (by omega) ?_; conv => whnf) | (refine OpP.nsub (by omega) (by omega) ?_; conv => whnf) | (refine ConvP.u64 (by omega) ?_; conv => whnf) | (refine ConvP.n32i (by omega) ?_; conv => whnf) | (refine LenP.go ?_; conv => whnf) | (refine LdR.dat (by assumption) ?_; conv => whnf) | (refine AKM.x ?_; conv => whnf)))
        refine StR.dig (by omega) ?_
        (conv => whnf)
        (repeat' (refine OpP.add (by omega) ?_; conv => whnf))
        exact AKM.back [] (by (conv => whnf); exact ⟨rfl, rfl, rfl⟩) (ih (i + 1) (o.set i (d - (bw))) 0 (by omega) ⟨by omega, by simpa using p2, p3.set _ (by omega), by omega, hdr _, h3⟩)
  · obtain rfl : i = x.length := by omega
    clear ih
    rw [val_take_all (by omega), val_take_all (Nat.le_refl _)] at p6
    have h1 := val_lt p3
    rw [p2] at h1
    have h2 : val (y.take x.length) ≤ val y := by have := val_splitD y x.length; omega
    have hb0 : bw = 0 := by
      rcases Nat.eq_zero_or_pos bw with h | h
      · exact h
      · have : bw = 1 := by omega
        subst this
        omega
    subst hb0
    have hve : val (y.take x.length) = val y := by
      have h3 := val_splitD y x.length
      rcases Nat.eq_zero_or_pos (val (y.drop x.length)) with h | h
      · rw [h] at h3; omega
      · have h4 : 4294967296 ^ x.length * 1 ≤ 4294967296 ^ x.length * val (y.drop x.length) := Nat.mul_le_mul_left _ h
        have h5 := val_lt hX
        omega
    have hv : val o = val x - val y := by omega
    have hT := fun q => ev_r1_Trim N o q p3 (by omega)
    rw [← hv, ← p2]
    (repeat' (first | (refine CmpP.go (fun hc => ?_) (fun hc => ?_) <;> first | (exfalso; omega) | (conv => whnf)) | (refine SnR.all (fun _ => rfl) rfl (by first | rfl | simp) ?_; conv => whnf) | (refine AKM.x ?_; conv => whnf) | (refine CallP.go (hT _) ?_; conv => whnf)))
    exact FinP.go rfl (cl_sl _)
theorem ev_r1_Sub (N : RefGLib L) (a b : List Nat) (q1 q2 : Bool) (hA : Dig a) (hB : Dig b) (la : a.length ≤ 549755813888) (lb : b.length ≤ 549755813888) : Ev L 104 [.sl q1 (a.map e32), .sl q2 (b.map e32)] (.sl false ((dg (val a - val b)).map e32)) := by
  have hcmp := fun q q' => ev_r1_Compare N a b q q' hA hB (by omega) (by omega)
  have t2 := fun q => ev_r1_Trim N b q hB (by omega)
  refine Ev.x N.ref01_Sub rfl rfl ?_
  by_cases hlt : val a < val b
  · rw [← cmpS_lt (by omega)] at hcmp
    rw [show val a - val b = 0 by omega, dg_zero]
    (repeat' (first | (refine CmpP.go (fun hc => ?_) (fun hc => ?_) <;> first | (exfalso; omega) | (conv => whnf)) | (refine AKM.x ?_; conv => whnf) | (refine CallP.go (hcmp _ _) ?_; conv => whnf)))
    exact FinP.go rfl (cl_sl [])
  · have hge := cmpS_ge (show val b ≤ val a by omega)
    generalize cmpS (val a) (val b) = cm at *
    have d2 := dig_dg (val b)
    have v2 := val_dg (val b)
    have l2 := dg_len_val hB
    rw [← v2]
    rw [← v2] at hlt
    generalize dg (val b) = y at *
    have hdg : ∀ n, a.take n = dg (val a) → val (a.take n) = val a := fun n h => by rw [h, val_dg]
    (repeat' (first | (refine CmpP.go (fun hc => ?_) (fun hc => ?_) <;> first | (exfalso; omega) | (conv => whnf)) | (refine AKM.x ?_; conv => whnf) | (refine CallP.go (hcmp _ _) ?_; conv => whnf) | (refine CallP.go (t2 _) ?_; conv => whnf)))
    refine CalP.walk 1000 N.ref01_Trim rfl rfl ?_
    (repeat' (first | (refine LenP.go ?_; conv => whnf) | (refine AKM.x ?_; conv => whnf)))
    refine AKM.loop1 (fun n => n) (fun (n : Nat) => n ≤ a.length ∧ ∀ i, n ≤ i → i < a.length → a[i]? = some 0) (fun n => [(3, .int .i64 n)]) (fun _ => []) [] [] a.length (by (conv => whnf); exact ⟨rfl, rfl, rfl⟩) ⟨Nat.le_refl _, fun i h1 h2 => by omega⟩ ?_
    intro n ⟨p1, p2⟩ ih
    rcases n with _ | n
    · have hv := hdg _ (cut_found hA p1 p2 (Or.inl rfl))
      clear ih
      (repeat' (first | (refine CmpP.go (fun hc => ?_) (fun hc => ?_) <;> first | (exfalso; omega) | (conv => whnf)) | (refine AKM.x ?_; conv => whnf)))
      refine SlS.to (k := 0) (fun _ => rfl) (by omega) ?_
      (conv => whnf)
      refine AppN.many (enc := e32) (fun _ => rfl) (by rw [List.length_take]; omega) (by rw [List.length_take]; omega) ?_
      (conv => whnf)
      refine ⟨rfl, _, rfl, ?_⟩
      (conv => whnf)
      skip
      rw [← hv]
      exact AKM.back [] (by (conv => whnf); exact ⟨rfl, rfl, rfl⟩) (r1_sub_main N (a.take 0) y (hA.take _) d2 (by simp) (by omega) (by omega))
    · have e1 : ((n + 1 : Nat) : Int) - 1 = n := by omega
      (repeat' (first | (refine CmpP.go (fun hc => ?_) (fun hc => ?_) <;> first | (exfalso; omega) | (conv => whnf)) | (refine OpP.sub (by omega) ?_; conv => whnf) | (refine RdP.digi (by assumption) (by omega) (fun e he hb => ?_); conv => whnf) | (refine AKM.x ?_; conv => whnf)))
      · rw [e1]
        exact AKM.back [] (by (conv => whnf); exact ⟨rfl, rfl, rfl⟩) (ih n (by omega) ⟨by omega, fun i h1 h2 => by
          by_cases h : i = n
          · subst h
            rw [e1, Int.toNat_natCast] at he
            rw [he]; congr 1; omega
          · exact p2 i (by omega) h2⟩)
      · rw [e1, Int.toNat_natCast] at he
        have hv := hdg _ (cut_found hA p1 p2 (Or.inr ⟨_, he, by omega⟩))
        clear ih
        refine SlS.to (k := n + 1) (fun _ => rfl) (by omega) ?_
        (conv => whnf)
        refine AppN.many (enc := e32) (fun _ => rfl) (by rw [List.length_take]; omega) (by rw [List.length_take]; omega) ?_
        (conv => whnf)
        refine ⟨rfl, _, rfl, ?_⟩
        (conv => whnf)
        skip
        rw [← hv]
        exact AKM.back [] (by (conv => whnf); exact ⟨rfl, rfl, rfl⟩) (r1_sub_main N (a.take (n + 1)) y (hA.take _) d2 (by rw [List.length_take]; omega) (by omega) (by omega))
theorem ev_r1_Mul (N : RefGLib L) (x y : List Nat) (q1 q2 : Bool) (hA : Dig x) (hB : Dig y) (lab : x.length + y.length ≤ 549755813888) : Ev L 105 [.sl q1 (x.map e32), .sl q2 (y.map e32)] (.sl false ((dg (val x * val y)).map e32)) := by
  refine Ev.x N.ref01_Mul rfl rfl ?_
  (repeat' (first | (refine OpP.add (by omega) ?_; conv => whnf) | (refine LenP.go ?_; conv => whnf) | (refine AKM.x ?_; conv => whnf)))
  refine MkR.go (enc := e32) 0 (x.length + y.length + 1) rfl (by omega) (by omega) ?_
  (conv => whnf)
  skip
  refine AKM.loop2 (fun i _ => x.length - i) (fun (i : Nat) (o : List Nat) => i ≤ x.length ∧ o.length = x.length + y.length + 1 ∧ Dig o ∧ val o = val (x.take i) * val y ∧ ∀ k, i + y.length ≤ k → k < o.length → o[k]? = some 0) (fun i o => [(6, .int .i64 i)]) (fun i o => [(15, 15, .rw 1 (o.map e32))]) [] [] 0 (List.replicate (x.length + y.length + 1) 0) (by (conv => whnf); exact ⟨rfl, rfl, rfl⟩) ⟨by omega, by simp, dig_zeros _, by simp [val, val_zeros], fun k h1 h2 => by simp at h2; simp [h2]⟩ ?_
  intro i O ⟨p1, p2, p3, p4, p5⟩ ih
  by_cases hi : i < x.length
  · obtain ⟨d, hd⟩ : ∃ d, x[i]? = some d := ⟨_, List.getElem?_eq_getElem hi⟩
    have hdb := hA.at hd
    (repeat' (first | (refine CmpP.go (fun hc => ?_) (fun hc => ?_) <;> first | (exfalso; omega) | (conv => whnf)) | (refine LenP.go ?_; conv => whnf) | (refine AKM.x ?_; conv => whnf)))
    refine AKM.loop3 (fun j _ _ => y.length - j) (fun (j : Nat) (o : List Nat) (c : Nat) => j ≤ y.length ∧ o.length = x.length + y.length + 1 ∧ Dig o ∧ c < 4294967296 ∧ val o + 4294967296 ^ (i + j) * c = val O + 4294967296 ^ i * (d * val (y.take j)) ∧ ∀ k, i + j ≤ k → o[k]? = O[k]?) (fun j o c => [(7, .int .u64 (c : Int)), (8, .int .i64 j)]) (fun j o c => [(15, 15, .rw 1 (o.map e32))]) [] [] 0 O 0 (by (conv => whnf); exact ⟨rfl, rfl, rfl⟩) ⟨by omega, p2, p3, by omega, by simp [val], fun _ _ => rfl⟩ ?_
    intro j o c ⟨r1, r2, r3, r4, r5, r6⟩ jh
    have e1 : ((i : Int) + j).toNat = i + j := by omega
    by_cases hj : j < y.length
    · obtain ⟨w, hw⟩ : ∃ w, y[j]? = some w := ⟨_, List.getElem?_eq_getElem hj⟩
      have hwb := hB.at hw
      have hm := mul_le_dig hdb hwb
      (repeat' (first | (refine CmpP.go (fun hc => ?_) (fun hc => ?_) <;> first | (exfalso; omega) | (conv => whnf)) | (refine Req.go (by omega) ?_; conv => whnf) | (refine OpP.add (by omega) ?_; conv => whnf) | (refine OpP.nadd (by omega) ?_; conv => whnf) | (refine OpP.nmul (by omega) ?_; conv => whnf) | (refine ConvP.u64 (by omega) ?_; conv => whnf) | (refine ConvP.n32 ?_; conv => whnf) | (refine LenP.go ?_; conv => whnf) | (refine RdP.at (by assumption) (by omega) rfl ?_; conv => whnf) | (refine LdR.dig (by assumption) (by omega) (fun v hv hb => ?_); conv => whnf) | (refine AKM.x ?_; conv => whnf)))
      refine StR.digo (i + j) (by omega) (by omega) ?_
      (conv => whnf)
      (repeat' (first | (refine OpP.add (by omega) ?_; conv => whnf) | (refine OpP.nshr32 ?_; conv => whnf)))
      refine AKM.back [] (by (conv => whnf); exact ⟨rfl, rfl, rfl⟩) (jh (j + 1) _ _ (by omega) ⟨by omega, by simpa using r2, r3.set _ (by omega), by omega, ?_, ?_⟩)
      · have h1 := val_set (v := (c + (d * w + v)) % 4294967296) hv
        have h2 := carry_step 0 (4294967296 ^ (i + j)) (c + (d * w + v))
        rw [val_take_succ hw, show i + (j + 1) = i + j + 1 by omega, Nat.pow_succ (4294967296) (i + j)]
        have h3 : 4294967296 ^ i * (d * (val (y.take j) + 4294967296 ^ j * w)) = 4294967296 ^ i * (d * val (y.take j)) + 4294967296 ^ (i + j) * (d * w) := by rw [Nat.pow_add]; grind
        rw [h3]
        generalize 4294967296 ^ (i + j) = P at *
        rw [Nat.mul_add P c, Nat.mul_add P] at h2
        omega
      · intro k hk
        rw [List.getElem?_set_ne (by omega)]
        exact r6 k (by omega)
    · obtain rfl : j = y.length := by omega
      clear jh
      have hz := r6 (i + y.length) (by omega)
      rw [p5 (i + y.length) (by omega) (by omega)] at hz
      (repeat' (first | (refine CmpP.go (fun hc => ?_) (fun hc => ?_) <;> first | (exfalso; omega) | (conv => whnf)) | (refine Req.go (by omega) ?_; conv => whnf) | (refine OpP.add (by omega) ?_; conv => whnf) | (refine ConvP.n32i (by omega) ?_; conv => whnf) | (refine LenP.go ?_; conv => whnf) | (refine AKM.x ?_; conv => whnf)))
      refine StR.digo (i + y.length) (by omega) (by omega) ?_
      (conv => whnf)
      (repeat' (refine OpP.add (by omega) ?_; conv => whnf))
      refine AKM.back [] (by (conv => whnf); exact ⟨rfl, rfl, rfl⟩) (ih (i + 1) _ (by omega) ⟨by omega, by simpa using r2, r3.set _ (by omega), ?_, ?_⟩)
      · have h1 := val_set (v := c) hz
        rw [Nat.mul_zero, Nat.add_zero] at h1
        rw [h1, r5, p4, val_take_all (Nat.le_refl _), val_take_succ hd, Nat.add_mul, Nat.mul_assoc]
      · intro k h1 h2
        rw [List.length_set] at h2
        rw [List.getElem?_set_ne (by omega), r6 k (by omega)]
        exact p5 k (by omega) (by omega)
  · obtain rfl : i = x.length := by omega
    clear ih
    rw [val_take_all (Nat.le_refl _)] at p4
    have hT := fun q => ev_r1_Trim N O q p3 (by omega)
    rw [p4] at hT
    rw [← p2]
    (repeat' (first | (refine CmpP.go (fun hc => ?_) (fun hc => ?_) <;> first | (exfalso; omega) | (conv => whnf)) | (refine LenP.go ?_; conv => whnf) | (refine SnR.all (fun _ => rfl) rfl (by first | rfl | simp) ?_; conv => whnf) | (refine AKM.x ?_; conv => whnf) | (refine CallP.go (hT _) ?_; conv => whnf)))
    exact FinP.go rfl (cl_sl _)
end Go.Eng


/-
  The references of natural numbers (ref01): lengths, shifts, division by a digit.
-/
namespace Go.Eng
open F
attribute [local irreducible] AKM CmpP Req OpP UnP ConvP RdP LdR StR MkR LenP AppR AppN CpyR RowP SnR Bds SlS CallP CalP FinP pw LdM GetM SetM PutM MkM AppM SnM FlP CallR
set_option maxHeartbeats 4000000
variable {L : Lib}
end Go.Eng


/-
  The references of natural numbers (ref01): division.
-/
namespace Go.Eng
open F
attribute [local irreducible] AKM CmpP Req OpP UnP ConvP RdP LdR StR MkR LenP AppR AppN CpyR RowP SnR Bds SlS CallP CalP FinP pw LdM GetM SetM PutM MkM AppM SnM FlP CallR
set_option maxHeartbeats 4000000
variable {L : Lib}
section
variable {A W C w y : List Nat} {j m s ul q : Nat} {Q : Tm → Mem → Prop}
end
end Go.Eng


/-
  The references of natural numbers (ref01): quotients, greatest common divisors.
-/
namespace Go.Eng
open F
attribute [local irreducible] AKM CmpP Req OpP UnP ConvP RdP LdR StR MkR LenP AppR AppN CpyR RowP SnR Bds SlS CallP CalP FinP pw LdM GetM SetM PutM MkM AppM SnM FlP CallR
set_option maxHeartbeats 8000000
variable {L : Lib}
end Go.Eng


/-
  The references of integers (ref02).
-/
namespace Go.Eng
open F
attribute [local irreducible] AKM CmpP Req OpP UnP ConvP RdP LdR StR MkR LenP AppR AppN CpyR RowP SnR Bds SlS CallP CalP FinP pw LdM GetM SetM PutM MkM AppM SnM FlP CallR
set_option maxHeartbeats 4000000
variable {L : Lib}
theorem ev_r2_Trim (N : RefGLib L) (n q : Bool) (m : List Nat) (hm : Sm 274877906944 m) : Ev L 111 [.agg (rZ q n m)] (.agg (eZ (zv n m))) := by
  have hT := fun q => ev_r1_Trim N m q hm.1 (by have := hm.2; omega)
  have hz := dg_len0 (val m)
  have ha := zv_abs n m
  refine Ev.x N.ref02_Trim rfl rfl ?_
  cases n
  · rw [zv_F] at *
    (repeat' (first | (refine AKM.x ?_; conv => whnf) | (refine CallP.go (hT _) ?_; conv => whnf)))
    exact FinP.go (agg_eZ ha.symm (sgn_F (by omega))) (cl_eZ _)
  · rw [zv_T] at *
    (repeat' (first | (refine CmpP.go (fun hc => ?_) (fun hc => ?_) <;> first | (exfalso; omega) | (conv => whnf)) | (refine LenP.go ?_; conv => whnf) | (refine AKM.x ?_; conv => whnf) | (refine CallP.go (hT _) ?_; conv => whnf)))
    · exact FinP.go (agg_eZ ha.symm (sgn_T (by omega))) (cl_eZ _)
    · exact FinP.go (agg_eZ ha.symm (sgn_F (by omega))) (cl_eZ _)
theorem ev_r2_Sign (N : RefGLib L) (n q : Bool) (m : List Nat) (hm : Sm 274877906944 m) : Ev L 113 [.agg (rZ q n m)] (.int .i64 (sgn (zv n m))) := by
  have hT := fun q => ev_r2_Trim N n q m hm
  generalize zv n m = z at *
  have hz := dg_len0 z.natAbs
  refine Ev.x N.ref02_Sign rfl rfl ?_
  (repeat' (first | (refine CmpP.go (fun hc => ?_) (fun hc => ?_) <;> first | (exfalso; omega) | (conv => whnf)) | (refine LenP.go ?_; conv => whnf) | (refine AKM.x ?_; conv => whnf) | (refine CallP.go (hT _) ?_; conv => whnf)))
  · exact FinP.i (sgn_zero (by omega))
  · cases hd : decide (z < 0)
    · (conv => whnf)
      exact FinP.i (sgn_pos (by have := of_decide_eq_false hd; omega))
    · (conv => whnf)
      exact FinP.i (sgn_neg (of_decide_eq_true hd))
theorem ev_r2_Neg (N : RefGLib L) (n q : Bool) (m : List Nat) (hm : Sm 274877906944 m) : Ev L 114 [.agg (rZ q n m)] (.agg (eZ (-(zv n m)))) := by
  have hT := fun q => ev_r2_Trim N n q m hm
  generalize zv n m = z at *
  have hz := dg_len0 z.natAbs
  refine Ev.x N.ref02_Neg rfl rfl ?_
  (repeat' (first | (refine AKM.x ?_; conv => whnf) | (refine CallP.go (hT _) ?_; conv => whnf)))
  cases hd : decide (z < 0)
  · have h1 := of_decide_eq_false hd
    (conv => whnf)
    (repeat' (first | (refine CmpP.go (fun hc => ?_) (fun hc => ?_) <;> first | (exfalso; omega) | (conv => whnf)) | (refine LenP.go ?_; conv => whnf)))
    · exact FinP.go (agg_eZ (by omega) (sgn_T (by omega))) (cl_eZ _)
    · exact FinP.go (agg_eZ (by omega) (sgn_F (by omega))) (cl_eZ _)
  · have h1 := of_decide_eq_true hd
    (conv => whnf)
    skip
    exact FinP.go (agg_eZ (by omega) (sgn_F (by omega))) (cl_eZ _)
theorem ev_r2_Mul (N : RefGLib L) (n1 n2 q1 q2 : Bool) (a b : List Nat) (ha : Dig a) (hb : Dig b) (hl : a.length + b.length ≤ 274877906944) : Ev L 118 [.agg (rZ q1 n1 a), .agg (rZ q2 n2 b)] (.agg (eZ (zv n1 a * zv n2 b))) := by
  have h1 := fun q q' => ev_r1_Mul N a b q q' ha hb (by omega)
  have sa : Sm a.length a := ⟨ha, Nat.le_refl _⟩
  have sb : Sm b.length b := ⟨hb, Nat.le_refl _⟩
  have hT := fun n q => ev_r2_Trim N n q (dg (val a * val b)) ((sa.mul sb rfl).le hl)
  have e : ∀ n, zv n (dg (val a * val b)) = bif n then -((val a * val b : Nat) : Int) else ((val a * val b : Nat) : Int) := fun n => by unfold zv; rw [val_dg]
  have e2 : zv n1 a * zv n2 b = zv (n1 != n2) (dg (val a * val b)) := by
    rw [e]
    cases n1 <;> cases n2 <;> simp [zv_F, zv_T, Int.mul_neg, Int.neg_mul]
  rw [e2]
  refine Ev.x N.ref02_Mul rfl rfl ?_
  cases n1 <;> cases n2
  all_goals
    (repeat' (first | (refine AKM.x ?_; conv => whnf) | (refine CallP.go (h1 _ _) ?_; conv => whnf) | (refine CallP.go (hT _ _) ?_; conv => whnf)))
    exact FinP.go rfl (cl_eZ _)
theorem ev_r2_Add (N : RefGLib L) (n1 n2 q1 q2 : Bool) (a b : List Nat) (ha : Sm 274877906943 a) (hb : Sm 274877906943 b) : Ev L 115 [.agg (rZ q1 n1 a), .agg (rZ q2 n2 b)] (.agg (eZ (zv n1 a + zv n2 b))) := by
  have t1 := fun q => ev_r2_Trim N n1 q a (ha.le (by omega))
  have t2 := fun q => ev_r2_Trim N n2 q b (hb.le (by omega))
  have s1 : Sm 274877906943 (dg (zv n1 a).natAbs) := by rw [zv_abs]; exact ha.nrm
  have s2 : Sm 274877906943 (dg (zv n2 b).natAbs) := by rw [zv_abs]; exact hb.nrm
  generalize zv n1 a = x at *
  generalize zv n2 b = y at *
  have h1 := fun q q' => ev_r1_Add N (dg x.natAbs) (dg y.natAbs) q q' s1.1 s2.1 (by have := s1.2; omega) (by have := s2.2; omega)
  have h2 := fun q q' => ev_r1_Sub N (dg x.natAbs) (dg y.natAbs) q q' s1.1 s2.1 (by have := s1.2; omega) (by have := s2.2; omega)
  have h3 := fun q q' => ev_r1_Sub N (dg y.natAbs) (dg x.natAbs) q q' s2.1 s1.1 (by have := s2.2; omega) (by have := s1.2; omega)
  have hcmp := fun q q' => ev_r1_Compare N (dg x.natAbs) (dg y.natAbs) q q' s1.1 s2.1 (by have := s1.2; omega) (by have := s2.2; omega)
  rw [val_dg, val_dg] at h1 h2 h3 hcmp
  have u1 := fun n q => ev_r2_Trim N n q (dg (x.natAbs + y.natAbs)) (s1.add s2 (by rw [val_dg, val_dg]; omega))
  have u2 := fun n q => ev_r2_Trim N n q (dg (x.natAbs - y.natAbs)) ((s1.low (V := x.natAbs - y.natAbs) (by rw [val_dg]; omega)).le (by omega))
  have u3 := fun n q => ev_r2_Trim N n q (dg (y.natAbs - x.natAbs)) ((s2.low (V := y.natAbs - x.natAbs) (by rw [val_dg]; omega)).le (by omega))
  have e : ∀ n V, zv n (dg V) = bif n then -(V : Int) else (V : Int) := fun n V => by unfold zv; rw [val_dg]
  refine Ev.x N.ref02_Add rfl rfl ?_
  (repeat' (first | (refine AKM.x ?_; conv => whnf) | (refine CallP.go (t1 _) ?_; conv => whnf) | (refine CallP.go (t2 _) ?_; conv => whnf)))
  cases hx : decide (x < 0) <;> cases hy : decide (y < 0)
  · have g1 := of_decide_eq_false hx
    have g2 := of_decide_eq_false hy
    have hz : x + y = zv false (dg (x.natAbs + y.natAbs)) := by rw [e]; simp only [cond_true, cond_false]; omega
    rw [hz]
    (conv => whnf)
    (repeat' (first | (refine CallP.go (h1 _ _) ?_; conv => whnf) | (refine CallP.go (u1 _ _) ?_; conv => whnf)))
    exact FinP.go rfl (cl_eZ _)
  · have g1 := of_decide_eq_false hx
    have g2 := of_decide_eq_true hy
    by_cases hlt : x.natAbs < y.natAbs
    · have hz : x + y = zv true (dg (y.natAbs - x.natAbs)) := by rw [e]; simp only [cond_true, cond_false]; omega
      rw [hz]
      rw [← cmpS_lt (by omega)] at hcmp
      (conv => whnf)
      (repeat' (first | (refine CmpP.go (fun hc => ?_) (fun hc => ?_) <;> first | (exfalso; omega) | (conv => whnf)) | (refine CallP.go (hcmp _ _) ?_; conv => whnf) | (refine CallP.go (h3 _ _) ?_; conv => whnf) | (refine CallP.go (u3 _ _) ?_; conv => whnf)))
      exact FinP.go rfl (cl_eZ _)
    · have hz : x + y = zv false (dg (x.natAbs - y.natAbs)) := by rw [e]; simp only [cond_true, cond_false]; omega
      rw [hz]
      have hge := cmpS_ge (show y.natAbs ≤ x.natAbs by omega)
      generalize cmpS (x.natAbs : Nat) (y.natAbs : Nat) = cm at *
      (conv => whnf)
      (repeat' (first | (refine CmpP.go (fun hc => ?_) (fun hc => ?_) <;> first | (exfalso; omega) | (conv => whnf)) | (refine CallP.go (hcmp _ _) ?_; conv => whnf) | (refine CallP.go (h2 _ _) ?_; conv => whnf) | (refine CallP.go (u2 _ _) ?_; conv => whnf)))
      exact FinP.go rfl (cl_eZ _)
  · have g1 := of_decide_eq_true hx
    have g2 := of_decide_eq_false hy
    by_cases hlt : x.natAbs < y.natAbs
    · have hz : x + y = zv false (dg (y.natAbs - x.natAbs)) := by rw [e]; simp only [cond_true, cond_false]; omega
      rw [hz]
      rw [← cmpS_lt (by omega)] at hcmp
      (conv => whnf)
      (repeat' (first | (refine CmpP.go (fun hc => ?_) (fun hc => ?_) <;> first | (exfalso; omega) | (conv => whnf)) | (refine CallP.go (hcmp _ _) ?_; conv => whnf) | (refine CallP.go (h3 _ _) ?_; conv => whnf) | (refine CallP.go (u3 _ _) ?_; conv => whnf)))
      exact FinP.go rfl (cl_eZ _)
    · have hz : x + y = zv true (dg (x.natAbs - y.natAbs)) := by rw [e]; simp only [cond_true, cond_false]; omega
      rw [hz]
      have hge := cmpS_ge (show y.natAbs ≤ x.natAbs by omega)
      generalize cmpS (x.natAbs : Nat) (y.natAbs : Nat) = cm at *
      (conv => whnf)
      (repeat' (first | (refine CmpP.go (fun hc => ?_) (fun hc => ?_) <;> first | (exfalso; omega) | (conv => whnf)) | (refine CallP.go (hcmp _ _) ?_; conv => whnf) | (refine CallP.go (h2 _ _) ?_; conv => whnf) | (refine CallP.go (u2 _ _) ?_; conv => whnf)))
      exact FinP.go rfl (cl_eZ _)
  · have g1 := of_decide_eq_true hx
    have g2 := of_decide_eq_true hy
    have hz : x + y = zv true (dg (x.natAbs + y.natAbs)) := by rw [e]; simp only [cond_true, cond_false]; omega
    rw [hz]
    (conv => whnf)
    (repeat' (first | (refine CallP.go (h1 _ _) ?_; conv => whnf) | (refine CallP.go (u1 _ _) ?_; conv => whnf)))
    exact FinP.go rfl (cl_eZ _)
theorem ev_r2_Sub (N : RefGLib L) (n1 n2 q1 q2 : Bool) (a b : List Nat) (ha : Sm 274877906943 a) (hb : Sm 274877906943 b) : Ev L 116 [.agg (rZ q1 n1 a), .agg (rZ q2 n2 b)] (.agg (eZ (zv n1 a - zv n2 b))) := by
  have t2 := fun q => ev_r2_Neg N n2 q b (hb.le (by omega))
  have s2 : Sm 274877906943 (dg (-(zv n2 b)).natAbs) := by rw [Int.natAbs_neg, zv_abs]; exact hb.nrm
  have h1 := fun q q' => ev_r2_Add N n1 (decide (-(zv n2 b) < 0)) q q' a (dg (-(zv n2 b)).natAbs) ha s2
  rw [zv_of, ← Int.sub_eq_add_neg] at h1
  refine Ev.x N.ref02_Sub rfl rfl ?_
  (repeat' (first | (refine AKM.x ?_; conv => whnf) | (refine CallP.go (t2 _) ?_; conv => whnf) | (refine CallP.go (h1 _ _) ?_; conv => whnf)))
  exact FinP.go rfl (cl_eZ _)
theorem ev_r2_Compare (N : RefGLib L) (n1 n2 q1 q2 : Bool) (a b : List Nat) (ha : Sm 274877906943 a) (hb : Sm 274877906943 b) : Ev L 117 [.agg (rZ q1 n1 a), .agg (rZ q2 n2 b)] (.int .i64 (sgn (zv n1 a - zv n2 b))) := by
  have h1 := fun q q' => ev_r2_Sub N n1 n2 q q' a b ha hb
  have s1 : Sm 274877906943 (dg (zv n1 a).natAbs) := by rw [zv_abs]; exact ha.nrm
  have s2 : Sm 274877906943 (dg (zv n2 b).natAbs) := by rw [zv_abs]; exact hb.nrm
  have s3 : Sm 274877906944 (dg (zv n1 a - zv n2 b).natAbs) := s1.add s2 (by rw [val_dg, val_dg]; omega)
  have h2 := fun q => ev_r2_Sign N (decide (zv n1 a - zv n2 b < 0)) q (dg (zv n1 a - zv n2 b).natAbs) s3
  rw [zv_of] at h2
  refine Ev.x N.ref02_Compare rfl rfl ?_
  (repeat' (first | (refine AKM.x ?_; conv => whnf) | (refine CallP.go (h1 _ _) ?_; conv => whnf) | (refine CallP.go (h2 _) ?_; conv => whnf)))
  exact FinP.i rfl
theorem ev_r2_Of (N : RefGLib L) (z : Int) (hz : -9223372036854775808 ≤ z ∧ z ≤ 9223372036854775807) : Ev L 112 [.int .i64 z] (.agg (eZ z)) := by
  have two : ∀ k : Nat, k < 18446744073709551616 → ∀ n q, Ev L 111 [.agg [.bool n, .sl q [[.int .u32 ((k % 4294967296 : Nat) : Int)], [.int .u32 ((k / 4294967296 : Nat) : Int)]]]] (.agg (eZ (bif n then -(k : Int) else (k : Int)))) := fun k hk n q => by
    have := ev_r2_Trim N n q [k % 4294967296, k / 4294967296] ⟨(dg2 hk).2, by simp⟩
    unfold zv at this
    rw [val_two hk] at this
    exact this
  refine Ev.x N.ref02_Of rfl rfl ?_
  by_cases h0 : 0 ≤ z
  · obtain ⟨k, rfl⟩ := Int.eq_ofNat_of_zero_le h0
    have hT := two k (by omega)
    (repeat' (first | (refine CmpP.go (fun hc => ?_) (fun hc => ?_) <;> first | (exfalso; omega) | (conv => whnf)) | (refine OpP.nshr32 ?_; conv => whnf) | (refine ConvP.u64 (by omega) ?_; conv => whnf) | (refine ConvP.n32i (by omega) ?_; conv => whnf) | (refine ConvP.n32 ?_; conv => whnf) | (refine SnR.e2 rfl rfl ?_; conv => whnf) | (refine AKM.x ?_; conv => whnf)))
    generalize k % 4294967296 = lo at *
    generalize k / 4294967296 = hi at *
    (repeat' (refine CallP.go (hT _ _) ?_; conv => whnf))
    exact FinP.go rfl (cl_eZ _)
  · obtain ⟨k, hk⟩ := Int.eq_ofNat_of_zero_le (show 0 ≤ -(z + 1) by omega)
    have hz2 : z = -((k + 1 : Nat) : Int) := by omega
    have hT := two (k + 1) (by omega)
    (repeat' (first | (refine CmpP.go (fun hc => ?_) (fun hc => ?_) <;> first | (exfalso; omega) | (conv => whnf)) | (refine OpP.add (by omega) ?_; conv => whnf) | (refine OpP.wadd ?_; conv => whnf) | (refine UnP.neg (by omega) ?_; conv => whnf) | (refine ConvP.u64 (by omega) ?_; conv => whnf) | (refine AKM.x ?_; conv => whnf)))
    rw [show IntKind.u64.wrap (-(z + 1) + 1) = ((k + 1 : Nat) : Int) by rw [IntWalk.u64_in _ (by omega)]; omega]
    rw [hz2]
    generalize k + 1 = k1 at *
    (repeat' (first | (refine OpP.nshr32 ?_; conv => whnf) | (refine ConvP.n32i (by omega) ?_; conv => whnf) | (refine ConvP.n32 ?_; conv => whnf) | (refine SnR.e2 rfl rfl ?_; conv => whnf)))
    generalize k1 % 4294967296 = lo at *
    generalize k1 / 4294967296 = hi at *
    (repeat' (refine CallP.go (hT _ _) ?_; conv => whnf))
    exact FinP.go rfl (cl_eZ _)
end Go.Eng


/-
  The references of rational numbers (ref03).
-/
namespace Go.Eng
open F
attribute [local irreducible] AKM CmpP Req OpP UnP ConvP RdP LdR StR MkR LenP AppR AppN CpyR RowP SnR Bds SlS CallP CalP FinP pw LdM GetM SetM PutM MkM AppM SnM FlP CallR
set_option maxHeartbeats 4000000
variable {L : Lib}
theorem dg_one' : dg 1 = [1] := by rw [dg_pos (by omega)]; simp [dg_zero]
/-- the parts of a raw number -/
def PtIs (n : Bool) (m d : List Nat) (n' : Bool) (m' d' : List Nat) (k : Nat) : Prop := Sm k m' ∧ Sm k d' ∧ val d' ≠ 0 ∧ qv n m d = mkRat (zv n' m') (val d')
theorem cl_parts3 (n : Bool) (m d : List Nat) : Clean (.tup [.agg (rZ false n m), .agg (rZ false false d)]) := by
  simp only [Clean, CleanL, and_true, true_and]
  exact ⟨cl_dig _, cl_dig _⟩
theorem ev_parts (N : RefGLib L) (n q : Bool) (m d : List Nat) (k : Nat) (hk : 1 ≤ k ∧ k ≤ 274877906943) (hm : Sm k m) (hd : Sm k d) : ∃ n' m' d', Ev L 122 [.agg (rQ false q n m d)] (.tup [.agg (rZ false n' m'), .agg (rZ false false d')]) ∧ PtIs n m d n' m' d' k := by
  have t1 := fun q => ev_r1_Trim N d q hd.1 (by have := hd.2; omega)
  have hl := dg_len0 (val d)
  by_cases h0 : val d = 0
  · refine ⟨false, [], [1], ?_, sm_nil _, sm_one hk.1 (by omega), by decide, by unfold qv; rw [h0, Rat.mkRat_zero, zv_nil, Rat.zero_mkRat]⟩
    refine Ev.x N.ref03_parts rfl rfl ?_
    (repeat' (first | (refine CmpP.go (fun hc => ?_) (fun hc => ?_) <;> first | (exfalso; omega) | (conv => whnf)) | (refine LenP.go ?_; conv => whnf) | (refine SnR.e1 rfl ?_; conv => whnf) | (refine AKM.x ?_; conv => whnf) | (refine CallP.go (t1 _) ?_; conv => whnf)))
    exact FinP.go rfl (cl_parts3 false [] [1])
  · refine ⟨n, m, dg (val d), ?_, hm, hd.nrm, by rw [val_dg]; exact h0, by rw [val_dg]; rfl⟩
    refine Ev.x N.ref03_parts rfl rfl ?_
    (repeat' (first | (refine CmpP.go (fun hc => ?_) (fun hc => ?_) <;> first | (exfalso; omega) | (conv => whnf)) | (refine LenP.go ?_; conv => whnf) | (refine AKM.x ?_; conv => whnf) | (refine CallP.go (t1 _) ?_; conv => whnf)))
    exact FinP.go rfl (cl_parts3 _ _ _)
theorem agg_whole' (z : Int) : AV.agg [.bool (decide (z < 0)), .sl false ((dg z.natAbs).map e32), .sl false [[.int .u32 1]]] = .agg (eQ (z : Rat)) := by
  show _ = AV.agg (rQ _ _ _ _ _)
  rw [Rat.num_intCast, Rat.den_intCast, dg_one']; rfl
theorem ev_r3_Of (N : RefGLib L) (z : Int) (hz : -9223372036854775808 ≤ z ∧ z ≤ 9223372036854775807) : Ev L 124 [.int .i64 z] (.agg (eQ (z : Rat))) := by
  have h1 := ev_r2_Of N z hz
  refine Ev.x N.ref03_Of rfl rfl ?_
  (repeat' (first | (refine SnR.e1 rfl ?_; conv => whnf) | (refine AKM.x ?_; conv => whnf) | (refine CallP.go (h1) ?_; conv => whnf)))
  exact FinP.go (agg_whole' z) (cl_eQ _)
/-- the general sum: numerators multiplied by the other denominator -/
theorem sm_zmul' {k l : Nat} {n1 n2 : Bool} {a b : List Nat} (ha : Sm k a) (hb : Sm l b) : Sm (k + l) (dg (zv n1 a * zv n2 b).natAbs) := ha.mul hb (by rw [Int.natAbs_mul, zv_abs, zv_abs])
/-- a comparison of rational numbers -/
theorem mk_cmp {a b : Int} {d e : Nat} (hd : d ≠ 0) (he : e ≠ 0) : sgn (a * e - b * d) = sgn (mkRat a d - mkRat b e).num := by
  have h : mkRat a d - mkRat b e = mkRat (a * e - b * d) (d * e) := by
    rw [Rat.sub_eq_add_neg, Rat.neg_mkRat, mk_add hd he, Int.neg_mul, ← Int.sub_eq_add_neg]
  rw [h, mk_sgn (Nat.mul_ne_zero hd he)]
theorem ev_r3_Compare (N : RefGLib L) (k : Nat) (hk : 1 ≤ k ∧ k ≤ 68719476736) (n1 n2 q2 q4 : Bool) (m1 d1 m2 d2 : List Nat) (hm1 : Sm k m1) (hd1 : Sm k d1) (hm2 : Sm k m2) (hd2 : Sm k d2) :
    Ev L 127 [.agg (rQ false q2 n1 m1 d1), .agg (rQ false q4 n2 m2 d2)] (.int .i64 (sgn (qv n1 m1 d1 - qv n2 m2 d2).num)) := by
  obtain ⟨a1, a2, a3, hr1, s1, s2, s3, s5⟩ := ev_parts N n1 q2 m1 d1 k (by omega) hm1 hd1
  obtain ⟨b1, b2, b3, hr2, t1, t2, t3, t5⟩ := ev_parts N n2 q4 m2 d2 k (by omega) hm2 hd2
  have l1 := s1.2
  have l2 := s2.2
  have l3 := t1.2
  have l4 := t2.2
  rw [s5, t5, ← mk_cmp s3 t3, ← zv_F b3, ← zv_F a3]
  have hM1 := fun q q' => ev_r2_Mul N a1 false q q' a2 b3 s1.1 t2.1 (by omega)
  have hM2 := fun q q' => ev_r2_Mul N b1 false q q' b2 a3 t1.1 s2.1 (by omega)
  have g1 : Sm (k + k) (dg (zv a1 a2 * zv false b3).natAbs) := sm_zmul' s1 t2
  have g2 : Sm (k + k) (dg (zv b1 b2 * zv false a3).natAbs) := sm_zmul' t1 s2
  have hC := fun q q' => ev_r2_Compare N (decide (zv a1 a2 * zv false b3 < 0)) (decide (zv b1 b2 * zv false a3 < 0)) q q' _ _ (g1.le (by omega)) (g2.le (by omega))
  rw [zv_of, zv_of] at hC
  refine Ev.x N.ref03_Compare rfl rfl ?_
  (repeat' (first | (refine AKM.x ?_; conv => whnf) | (refine CallP.go (hr1) ?_; conv => whnf) | (refine CallP.go (hr2) ?_; conv => whnf) | (refine CallP.go (hM1 _ _) ?_; conv => whnf) | (refine CallP.go (hM2 _ _) ?_; conv => whnf) | (refine CallP.go (hC _ _) ?_; conv => whnf)))
  exact FinP.i rfl
end Go.Eng


/-
  Rational numbers in lowest terms: the arithmetic of the references.
-/
namespace Go.Eng
open F
attribute [local irreducible] AKM CmpP Req OpP UnP ConvP RdP LdR StR MkR LenP AppR AppN CpyR RowP SnR Bds SlS CallP CalP FinP pw LdM GetM SetM PutM MkM AppM SnM FlP CallR
set_option maxHeartbeats 4000000
variable {L : Lib}
theorem Bt.sm3 {k : Nat} {x : Rat} (h : Bt k x) (hk : k < 2199023255552) : Sm 68719476736 (dg x.num.natAbs) ∧ Sm 68719476736 (dg x.den) := h.dig (by omega)
theorem ev_cmp3 (N : RefGLib L) {x y : Rat} {k l : Nat} (hx : Bt k x) (hy : Bt l y) (hk : k < 2199023255552) (hl : l < 2199023255552) : Ev L 127 [.agg (eQ x), .agg (eQ y)] (.int .i64 (sgn (x - y).num)) := by
  have := ev_r3_Compare N 68719476736 (by omega) (decide (x.num < 0)) (decide (y.num < 0)) false false _ _ _ _ (hx.sm3 hk).1 (hx.sm3 hk).2 (hy.sm3 hl).1 (hy.sm3 hl).2
  rw [qv_of, qv_of] at this
  exact this
theorem sgn_sub {x y : Rat} : sgn (x - y).num = 0 ↔ x = y := by
  have h : sgn (x - y).num = 0 ↔ (x - y).num = 0 := by unfold sgn; split <;> (try split) <;> omega
  rw [h, Rat.num_eq_zero]
  constructor
  · intro h; grind
  · rintro rfl; exact Rat.sub_self
theorem ev_SameRats (N : RefGLib L) (a b : List Rat) (q1 q2 : Bool) (k : Nat) (ha : Bs k a) (hb : Bs k b) (hk : k < 2199023255552) (hl : a.length ≤ 1099511627776) : Ev L 129 [.sl q1 (a.map eQ), .sl q2 (b.map eQ)] (.bool (decide (a = b))) := by
  refine Ev.x N.ref21_SameRats rfl rfl ?_
  by_cases hlen : a.length = b.length
  · (repeat' (first | (refine CmpP.go (fun hc => ?_) (fun hc => ?_) <;> first | (exfalso; omega) | (conv => whnf)) | (refine LenP.go ?_; conv => whnf) | (refine AKM.x ?_; conv => whnf)))
    refine AKM.loop1 (fun i => a.length - i) (fun (i : Nat) => i ≤ a.length ∧ a.take i = b.take i) (fun i => [(5, .int .i64 i)]) (fun _ => []) [] [] 0 (by (conv => whnf); exact ⟨rfl, rfl, rfl⟩) ⟨by omega, rfl⟩ ?_
    intro i ⟨p1, p2⟩ ih
    by_cases hi : i < a.length
    · obtain ⟨x, hx⟩ : ∃ x, a[i]? = some x := ⟨_, List.getElem?_eq_getElem hi⟩
      obtain ⟨y, hy⟩ : ∃ y, b[i]? = some y := ⟨_, List.getElem?_eq_getElem (by omega)⟩
      have hx' : a[(i : Int).toNat]? = some x := hx
      have hy' : b[(i : Int).toNat]? = some y := hy
      have hC3 := ev_cmp3 N (ha.at hx) (hb.at hy) hk hk
      have hs := sgn_sub (x := x) (y := y)
      generalize sgn (x - y).num = sg at *
      by_cases hxy : x = y
      · have h0 : sg = 0 := hs.2 hxy
        (repeat' (first | (refine CmpP.go (fun hc => ?_) (fun hc => ?_) <;> first | (exfalso; omega) | (conv => whnf)) | (refine OpP.add (by omega) ?_; conv => whnf) | (refine LenP.go ?_; conv => whnf) | (refine RdP.at (by assumption) (by omega) rfl ?_; conv => whnf) | (refine AKM.x ?_; conv => whnf) | (refine CallP.go (hC3) ?_; conv => whnf)))
        refine AKM.back [] (by (conv => whnf); exact ⟨rfl, rfl, rfl⟩) (ih (i + 1) (by omega) ⟨by omega, ?_⟩)
        rw [List.take_add_one, List.take_add_one, p2, hx, hy, hxy]
      · have hne : sg ≠ 0 := fun h => hxy (hs.1 h)
        (repeat' (first | (refine CmpP.go (fun hc => ?_) (fun hc => ?_) <;> first | (exfalso; omega) | (conv => whnf)) | (refine LenP.go ?_; conv => whnf) | (refine RdP.at (by assumption) (by omega) rfl ?_; conv => whnf) | (refine AKM.x ?_; conv => whnf) | (refine CallP.go (hC3) ?_; conv => whnf)))
        refine FinP.df (fun h => hxy ?_)
        rw [h, hy] at hx
        exact (Option.some.inj hx).symm
    · obtain rfl : i = a.length := by omega
      clear ih
      (repeat' (first | (refine CmpP.go (fun hc => ?_) (fun hc => ?_) <;> first | (exfalso; omega) | (conv => whnf)) | (refine LenP.go ?_; conv => whnf) | (refine AKM.x ?_; conv => whnf)))
      refine FinP.dt ?_
      rw [List.take_of_length_le (Nat.le_refl _), List.take_of_length_le (by omega)] at p2
      exact p2
  · (repeat' (first | (refine CmpP.go (fun hc => ?_) (fun hc => ?_) <;> first | (exfalso; omega) | (conv => whnf)) | (refine LenP.go ?_; conv => whnf) | (refine AKM.x ?_; conv => whnf)))
    exact FinP.df (fun h => hlen (by rw [h]))
end Go.Eng


/-
  Networks without rounding, plain: values are linear in the sources.
-/
namespace Go.Eng
/-- the sum of the products of a node -/
def sumQ (vals : List Rat) : List (Int × Int) → Rat
  | [] => 0
  | t :: ts => (t.2 : Rat) * vals.getD t.1.toNat 0 + sumQ vals ts
theorem sumQ_snoc (vals : List Rat) (t : Int × Int) : ∀ ts, sumQ vals (ts ++ [t]) = sumQ vals ts + (t.2 : Rat) * vals.getD t.1.toNat 0
  | [] => by simp only [List.nil_append, sumQ]; grind
  | u :: ts => by simp only [List.cons_append, sumQ]; rw [sumQ_snoc vals t ts]; grind
theorem sumQ_take {vals : List Rat} {ts : List (Int × Int)} {i : Nat} {t : Int × Int} (h : ts[i]? = some t) : sumQ vals (ts.take (i + 1)) = sumQ vals (ts.take i) + (t.2 : Rat) * vals.getD t.1.toNat 0 := by
  rw [List.take_add_one, h, Option.toList_some, sumQ_snoc]
/-- all values, of the sources' -/
def exS (u : Rat) (ex : Int) : Nat → List Rat → List (List (Int × Int)) → List Rat
  | _, vals, [] => vals
  | k, vals, ts :: r => exS u ex (k + 1) (vals ++ [sumQ vals ts / u + (if (k : Int) = ex then 1 else 0)]) r
theorem exS_len (u : Rat) (ex : Int) : ∀ (k : Nat) (vals : List Rat) (l : List (List (Int × Int))), (exS u ex k vals l).length = vals.length + l.length
  | _, _, [] => rfl
  | k, vals, ts :: r => by rw [exS, exS_len u ex (k + 1)]; simp; omega
theorem Bs.getD {k : Nat} {l : List Rat} (h : Bs k l) (i : Nat) : Bt k (l.getD i 0) := by
  rw [List.getD_eq_getElem?_getD]
  cases e : l[i]? with
  | none => exact Bt.zero k
  | some x => exact h.at e
theorem Bs.sum {k j : Nat} {vals : List Rat} (hv : Bs k vals) : ∀ (ts : List (Int × Int)), (∀ t ∈ ts, Bt j ((t.2 : Int) : Rat)) → Bt (ts.length * (j + k + 1)) (sumQ vals ts)
  | [], _ => Bt.zero _
  | t :: ts, h => by
    have h1 := (h t (by simp)).mul (hv.getD t.1.toNat)
    have h2 := Bs.sum hv ts (fun u hu => h u (by simp [hu]))
    refine (h1.add h2).le ?_
    rw [List.length_cons, Nat.succ_mul]; omega
/-! linear in the sources: C holds the values for the unit sources -/
def LinV (C : List (List Rat)) (z vals : List Rat) : Prop := ∀ m, m < vals.length → vals.getD m 0 = dotQ (C.map fun c => c.getD m 0) z
theorem dotQ_smul (x : Rat) : ∀ (a z : List Rat), dotQ (a.map fun c => x * c) z = x * dotQ a z
  | [], z => by cases z <;> simp [dotQ]
  | p :: a, [] => by simp [dotQ]
  | p :: a, q :: z => by
    simp only [List.map_cons, dotQ]
    rw [dotQ_smul x a z]; grind
theorem dotQ_mapadd {α : Type} (f g : α → Rat) : ∀ (a : List α) (z : List Rat), dotQ (a.map fun c => f c + g c) z = dotQ (a.map f) z + dotQ (a.map g) z
  | [], z => by cases z <;> (simp only [List.map_nil, dotQ]; grind)
  | p :: a, [] => by simp only [List.map_cons, dotQ]; grind
  | p :: a, q :: z => by
    simp only [List.map_cons, dotQ]
    rw [dotQ_mapadd f g a z]; grind
theorem dotQ_zero {α : Type} : ∀ (a : List α) (z : List Rat), dotQ (a.map fun _ => (0 : Rat)) z = 0
  | [], z => by cases z <;> rfl
  | p :: a, [] => rfl
  | p :: a, q :: z => by
    simp only [List.map_cons, dotQ]
    rw [dotQ_zero a z]; grind
theorem LinV.sum {C : List (List Rat)} {z vals : List Rat} (h : LinV C z vals) : ∀ (ts : List (Int × Int)), (∀ t ∈ ts, t.1.toNat < vals.length) → sumQ vals ts = dotQ (C.map fun c => sumQ c ts) z
  | [], _ => (dotQ_zero C z).symm
  | t :: ts, ht => by
    simp only [sumQ]
    rw [dotQ_mapadd (fun c => (t.2 : Rat) * c.getD t.1.toNat 0) (fun c => sumQ c ts), ← LinV.sum h ts (fun u hu => ht u (by simp [hu])), h _ (ht t (by simp))]
    have := dotQ_smul (t.2 : Rat) (C.map fun c => c.getD t.1.toNat 0) z
    rw [List.map_map] at this
    rw [← this]; rfl
theorem getD_snoc_lt {l : List Rat} {x : Rat} {m : Nat} (h : m < l.length) : (l ++ [x]).getD m 0 = l.getD m 0 := by
  rw [List.getD_eq_getElem?_getD, List.getD_eq_getElem?_getD, List.getElem?_append_left h]
theorem getD_snoc_eq {l : List Rat} {x : Rat} {m : Nat} (h : m = l.length) : (l ++ [x]).getD m 0 = x := by
  subst h
  rw [List.getD_eq_getElem?_getD, List.getElem?_append_right (Nat.le_refl _)]; simp
/-- all nodes: what the unit sources give determines what any sources give -/
theorem LinV.all {u : Rat} (hu : u ≠ 0) {z : List Rat} : ∀ (l : List (List (Int × Int))) (k : Nat) (C : List (List Rat)) (vals : List Rat), LinV C z vals → (∀ c ∈ C, c.length = vals.length) → (∀ i ts, l[i]? = some ts → ∀ t ∈ ts, t.1.toNat < vals.length + i) →
    LinV (C.map fun c => exS u (-1) k c l) z (exS u (-1) k vals l)
  | [], _, C, vals, h, _, _ => by
    have e : (C.map fun c => exS u (-1) 0 c []) = C := by
      simp [exS]
    simpa [exS] using h
  | ts :: l, k, C, vals, h, hc, ht => by
    have hts := ht 0 ts rfl
    have e0 : ¬ (k : Int) = -1 := by omega
    simp only [exS, if_neg e0, Rat.add_zero]
    have hs := h.sum ts (fun t h1 => by have := hts t h1; omega)
    have hstep : LinV (C.map fun c => c ++ [sumQ c ts / u]) z (vals ++ [sumQ vals ts / u]) := by
      intro m hm
      simp only [List.length_append, List.length_cons, List.length_nil] at hm
      rw [List.map_map]
      by_cases hm2 : m < vals.length
      · rw [getD_snoc_lt hm2, h m hm2]
        congr 1
        refine List.map_congr_left fun c hcm => ?_
        simp only [Function.comp]
        rw [getD_snoc_lt (by rw [hc c hcm]; exact hm2)]
      · rw [getD_snoc_eq (by omega)]
        have e1 : (C.map ((fun c => c.getD m 0) ∘ fun c => c ++ [sumQ c ts / u])) = C.map fun c => u⁻¹ * sumQ c ts := by
          refine List.map_congr_left fun c hcm => ?_
          simp only [Function.comp]
          rw [getD_snoc_eq (by rw [hc c hcm]; omega), Rat.div_def, Rat.mul_comm]
        rw [e1, hs, Rat.div_def, Rat.mul_comm]
        have := dotQ_smul u⁻¹ (C.map fun c => sumQ c ts) z
        rw [List.map_map] at this
        rw [← this]; rfl
    have ih := LinV.all hu l (k + 1) (C.map fun c => c ++ [sumQ c ts / u]) (vals ++ [sumQ vals ts / u]) hstep (fun c hcm => by
      obtain ⟨c0, h0, rfl⟩ := List.mem_map.1 hcm
      simp [hc c0 h0]) (fun i ts2 h2 t h3 => by
      have := ht (i + 1) ts2 h2 t h3
      simp; omega)
    rw [List.map_map] at ih
    exact ih
/-- sizes of the values of a small network: at most 4 terms a node, coefficients of at most 24 bits -/
def gS : Nat → Nat
  | 0 => 0
  | i + 1 => 4 * gS i + 125
theorem gS_mono (i : Nat) : gS i ≤ gS (i + 1) := by rw [gS]; omega
theorem Bt.ofInt {k : Nat} {z : Int} (h : z.natAbs ≤ 2 ^ k) : Bt k ((z : Int) : Rat) := ⟨by rw [Rat.num_intCast]; exact h, by rw [Rat.den_intCast]; exact Nat.one_le_two_pow⟩
theorem Bt.divz {k j : Nat} {x : Rat} {z : Int} (h : Bt k x) (hz : 1 ≤ z) (hj : z.natAbs ≤ 2 ^ j) : Bt (k + j) (x / (z : Rat)) := by
  obtain ⟨d, rfl⟩ := Int.eq_ofNat_of_zero_le (show 0 ≤ z by omega)
  have e : x / ((d : Int) : Rat) = x * mkRat 1 d := by
    rw [Rat.div_def, Rat.mkRat_eq_div, Rat.div_def]
    congr 1
    rw [show ((1 : Int) : Rat) = 1 from rfl, Rat.one_mul]; rfl
  rw [e]
  exact h.mul (Bt.mk (by simp; exact Nat.one_le_two_pow) (by simpa using hj))
structure SmallN (l : List (List (Int × Int))) : Prop where
  len : ∀ ts ∈ l, ts.length ≤ 4
  cf : ∀ ts ∈ l, ∀ t ∈ ts, t.2.natAbs ≤ 2 ^ 24
theorem node_bt {ts : List (Int × Int)} {vals : List Rat} {k : Nat} {z : Int} (h1 : ts.length ≤ 4) (h2 : ∀ t ∈ ts, t.2.natAbs ≤ 2 ^ 24) (hv : Bs k vals) (hz : 1 ≤ z) (hz2 : z.natAbs ≤ 2 ^ 24) (b : Bool) : Bt (4 * k + 125) (sumQ vals ts / (z : Rat) + (if b = true then 1 else 0)) := by
  have a1 := hv.sum ts (j := 24) (fun t ht => Bt.ofInt (h2 t ht))
  have a2 : Bt (4 * (24 + k + 1)) (sumQ vals ts) := a1.le (Nat.mul_le_mul_right _ h1)
  have a3 := a2.divz hz hz2
  have a4 : Bt 0 (if b = true then (1 : Rat) else 0) := by cases b <;> first | exact Bt.zero 0 | exact Bt.one 0
  exact (a3.add a4).le (by omega)
theorem exS_bs {z ex : Int} (hz : 1 ≤ z) (hz2 : z.natAbs ≤ 2 ^ 24) : ∀ (l : List (List (Int × Int))) (k : Nat) (vals : List Rat), SmallN l → Bs (gS k) vals → Bs (gS (k + l.length)) (exS (z : Rat) ex k vals l)
  | [], k, vals, _, hv => hv
  | ts :: l, k, vals, h, hv => by
    have h1 := node_bt (h.len ts (by simp)) (h.cf ts (by simp)) hv hz hz2 (decide ((k : Int) = ex))
    simp only [decide_eq_true_eq] at h1
    rw [exS, List.length_cons, show k + (l.length + 1) = k + 1 + l.length by omega]
    refine exS_bs hz hz2 l (k + 1) _ ⟨fun t ht => h.len t (by simp [ht]), fun t ht => h.cf t (by simp [ht])⟩ ?_
    intro x hx
    rcases List.mem_append.1 hx with hx | hx
    · exact (hv x hx).le (gS_mono k)
    · simp only [List.mem_singleton] at hx
      rw [hx]
      exact h1
theorem exS_take (u : Rat) (ex : Int) (vals : List Rat) (l : List (List (Int × Int))) (i : Nat) (ts : List (Int × Int)) (h : l[i]? = some ts) : exS u ex 0 vals (l.take (i + 1)) = exS u ex 0 vals (l.take i) ++ [sumQ (exS u ex 0 vals (l.take i)) ts / u + (if (i : Int) = ex then 1 else 0)] := by
  have key : ∀ (l : List (List (Int × Int))) (k : Nat) (vals : List Rat) (ts : List (Int × Int)), exS u ex k vals (l ++ [ts]) = exS u ex k vals l ++ [sumQ (exS u ex k vals l) ts / u + (if ((k + l.length : Nat) : Int) = ex then 1 else 0)] := by
    intro l
    induction l with
    | nil => intro k vals ts; simp [exS]
    | cons a l ih =>
      intro k vals ts
      rw [List.cons_append, exS, ih, exS, List.length_cons, show k + 1 + l.length = k + (l.length + 1) by omega]
  have hi := (List.getElem?_eq_some_iff.1 h).1
  rw [List.take_add_one, h, Option.toList_some, key, List.length_take, Nat.min_eq_left (by omega), Nat.zero_add]
end Go.Eng


/-
  A row of rows that are all nil, taken as a row of cells.
-/
namespace Go.Eng
theorem mxB_none (σ : Stp) (k : Nat) : ∀ (n i : Nat), mxB σ k i (List.replicate n none) = List.replicate n [.nil]
  | 0, _ => rfl
  | n + 1, i => by
    rw [List.replicate_succ, List.replicate_succ]
    show [AV.nil] :: mxB σ k (i + 1) (List.replicate n none) = _
    rw [mxB_none σ k n (i + 1)]
theorem AKM.mxN {L : Lib} {kk : List It} {tm : Tm} {M : Mem} {Q : Tm → Mem → Prop} (k s n : Nat) (e : mget M k = some (s, .mx (List.replicate n none))) (h : AKM L kk tm ((k, s, .rw 1 (List.replicate n [.nil])) :: M) Q) : AKM L kk tm M Q := by
  intro σ st hr
  have hg : ∀ j t c, mref ((k, s, .rw 1 (List.replicate n [.nil])) :: M) j t = some c → ∃ c0, mref M j t = some c0 ∧ c0.blk σ j = c.blk σ j := by
    intro j t c g
    by_cases hj : j = k
    · subst hj
      cases t with
      | zero =>
        have h1 : mget ((j, s, Cel.rw 1 (List.replicate n [.nil])) :: M) j = some (s, .rw 1 (List.replicate n [.nil])) := by simp [mget]
        simp only [mref, h1, Option.some.injEq] at g
        subst g
        refine ⟨.mx (List.replicate n none), by simp only [mref, e], ?_⟩
        simp only [Cel.blk, mxB_none]
      | succ i =>
        have h1 : mget ((j, s, Cel.rw 1 (List.replicate n [.nil])) :: M) j = some (s, .rw 1 (List.replicate n [.nil])) := by simp [mget]
        simp only [mref, h1] at g
        cases g
    · have h1 : mget ((k, s, Cel.rw 1 (List.replicate n [.nil])) :: M) j = mget M j := by
        have hb : Nat.beq j k = false := by
          cases hbb : Nat.beq j k with
          | false => rfl
          | true => exact absurd (Nat.eq_of_beq_eq_true hbb) hj
        simp only [mget, hb, cond_false]
      refine ⟨c, ?_, rfl⟩
      simp only [mref, h1] at g ⊢
      exact g
  refine h σ st ⟨hr.tm, ⟨?_, ?_, ?_, ?_⟩⟩
  · intro j s' c g
    by_cases hj : j = k
    · subst hj
      have h1 : mget ((j, s, Cel.rw 1 (List.replicate n [.nil])) :: M) j = some (s, .rw 1 (List.replicate n [.nil])) := by simp [mget]
      rw [h1] at g
      simp only [Option.some.injEq, Prod.mk.injEq] at g
      obtain ⟨rfl, _⟩ := g
      exact hr.sat.site _ _ _ e
    · have h1 : mget ((k, s, Cel.rw 1 (List.replicate n [.nil])) :: M) j = mget M j := by
        have hb : Nat.beq j k = false := by
          cases hbb : Nat.beq j k with
          | false => rfl
          | true => exact absurd (Nat.eq_of_beq_eq_true hbb) hj
        simp only [mget, hb, cond_false]
      rw [h1] at g
      exact hr.sat.site _ _ _ g
  · intro j t c g
    obtain ⟨c0, q1, q2⟩ := hg j t c g
    rw [← q2]; exact hr.sat.blk _ _ _ q1
  · intro j t c g
    obtain ⟨c0, q1, _⟩ := hg j t c g
    exact hr.sat.old _ _ _ q1
  · intro j t j' t' c c' g g' hσ
    obtain ⟨c0, q1, _⟩ := hg j t c g
    obtain ⟨c1, q2, _⟩ := hg j' t' c' g'
    exact hr.sat.inj _ _ _ _ _ _ q1 q2 hσ
end Go.Eng


/-
  Calls whose result is a new row of data: how they are shown, and how the walk goes on.
-/
namespace Go.Eng
variable {L : Lib}
/-- the end of such a function -/
def RetR (fn : AFn) (z : Nat) (es : List (List AV)) (tm : Tm) (M : Mem) : Prop := match fn.res with
  | [.tmp t] => match tg tm t with
    | .row k 0 z' 0 n => match mget M k with
      | some (_, .rw z'' es') => z' = z ∧ z'' = z ∧ n = es.length ∧ es' = es ∧ CleanLL es
      | _ => False
    | _ => False
  | _ => False
theorem EvR.x {f : Nat} {fn : AFn} {vs : List AV} {z : Nat} {es : List (List AV)} (hL : L f = some fn) (hp : Nat.beq vs.length fn.pars = true) (hd : datAL vs = true) (h : AKM L [.code fn.body] (initTm 0 vs) [] (RetR fn z es)) : EvR L f vs z es := by
  obtain ⟨n, c, st', hr, σ, tm, M, hR, hq⟩ := h (fun _ _ => (0, 0)) ⟨initTm 0 vs, Own.emp⟩ ⟨fun j => Or.inr (by rw [tg_eq]; exact datAL_tg hd j), ⟨(fun _ _ _ e => by cases e), (fun _ _ _ e => by simp [mref, mget] at e), (fun _ _ _ e => by simp [mref, mget] at e), (fun _ _ _ _ _ _ e => by simp [mref, mget] at e)⟩⟩
  unfold RetR at hq
  split at hq
  · rename_i t hres
    split at hq
    · rename_i k z' m htm
      split at hq
      · rename_i s z'' es' hM
        obtain ⟨rfl, rfl, rfl, rfl, hcl⟩ := hq
        have hv : tget st'.tm t = .row (σ k 0).1 (σ k 0).2 z'' 0 es'.length := by
          rcases hR.tm t with e | e
          · rw [htm] at e; cases e
          · rw [e, htm]; rfl
        have hb := hR.sat.blk k 0 (.rw z'' es') (by simp only [mref, hM])
        obtain ⟨q, hq⟩ := EvI.intro (r := .row (σ k 0).1 (σ k 0).2 z'' 0 es'.length) (o' := st'.own) hL (beq_iff.1 hp) ⟨n, c, st', hr, by simp [hres, resOf, hv, resTmp, resVal], rfl⟩
        refine ⟨q, ?_⟩
        simp only [hq, adoptR, Own.get, hb]
        rw [if_pos (show (Cel.blk σ k (.rw z'' es')).es.length = es'.length ∧ CleanLL (Cel.blk σ k (.rw z'' es')).es from ⟨rfl, hcl⟩)]
        rfl
      · exact hq.elim
    · exact hq.elim
  · exact hq.elim
theorem CallR.go {α : Type} {enc : α → List AV} {l : List α} {f z : Nat} {vs : List AV} {K : Nat → List (List AV) → Nat → Prop} (n : Nat) (h : EvR L f vs z (l.map enc)) (hn : n = l.length) (hk : K z (l.map enc) n) : CallR L f vs K := ⟨z, _, n, h, by simpa using hn, hk⟩
end Go.Eng


/-
  Networks without rounding (layer 22): the program.
-/
namespace Go.Eng
open F
attribute [local irreducible] AKM CmpP Req OpP UnP ConvP RdP LdR StR MkR LenP AppR AppN CpyR RowP SnR Bds SlS CallP CalP FinP pw LdM GetM SetM PutM MkM AppM SnM FlP CallR
set_option maxHeartbeats 4000000
variable {L : Lib}
def intsQ (l : List Int) : List Rat := l.map fun v => ((v : Int) : Rat)
theorem ev_Ints (N : IntsGLib L) (l : List Int) (q : Bool) (hl : ∀ x ∈ l, InI x) (hn : l.length ≤ 1000000) : Ev L 147 [.sl q (l.map encInt)] (.sl false ((intsQ l).map eQ)) := by
  refine Ev.x N.world_Ints rfl rfl ?_
  (repeat' (refine AKM.x ?_; conv => whnf))
  refine AKM.loop1 (fun i => l.length - i) (fun (i : Nat) => i ≤ l.length) (fun i => [(4, .int .i64 i), (3, .row 3 0 3 0 i)]) (fun i => [(3, 3, .rw 3 ((intsQ (l.take i)).map eQ))]) [] [] 0 (by (conv => whnf); exact ⟨rfl, rfl, rfl⟩) (by omega) ?_
  intro i p1 ih
  have hlen : (intsQ (l.take i)).length = i := by simp [intsQ]; omega
  by_cases hi : i < l.length
  · obtain ⟨x, hx⟩ : ∃ x, l[i]? = some x := ⟨_, List.getElem?_eq_getElem hi⟩
    have hx' : l[(i : Int).toNat]? = some x := hx
    have hI := hl x (List.mem_of_getElem? hx)
    unfold InI at hI
    have hO := ev_r3_Of N.toRefGLib x hI
    have hsn : intsQ (l.take (i + 1)) = intsQ (l.take i) ++ [((x : Int) : Rat)] := by rw [List.take_add_one, hx]; simp [intsQ]
    (repeat' (first | (refine CmpP.go (fun hc => ?_) (fun hc => ?_) <;> first | (exfalso; omega) | (conv => whnf)) | (refine LenP.go ?_; conv => whnf) | (refine RdP.at (by assumption) (by omega) rfl ?_; conv => whnf) | (refine RowP.e1 ?_; conv => whnf) | (refine AKM.x ?_; conv => whnf) | (refine CallP.go (hO) ?_; conv => whnf)))
    refine AppR.one (enc := eQ) ((x : Int) : Rat) rfl hlen.symm rfl (by omega) (by rw [hlen]; omega) ?_
    rw [← hsn, show (intsQ (List.take (i + 1) l)).length = i + 1 by simp [intsQ]; omega]
    (repeat' (refine OpP.add (by omega) ?_; conv => whnf))
    exact AKM.back [(3, 18)] (by (conv => whnf); exact ⟨rfl, rfl, rfl⟩) (ih (i + 1) (by omega) (by omega))
  · obtain rfl : i = l.length := by omega
    clear ih
    rw [List.take_of_length_le (Nat.le_refl _)] at *
    (repeat' (first | (refine CmpP.go (fun hc => ?_) (fun hc => ?_) <;> first | (exfalso; omega) | (conv => whnf)) | (refine LenP.go ?_; conv => whnf) | (refine AKM.x ?_; conv => whnf)))
    refine SnR.all (enc := eQ) (fun _ => rfl) rfl (by simp [intsQ]) ?_
    exact FinP.go rfl (by simp only [Clean, true_and]; exact cl_eQs _)
/-- all values without rounding -/
def tsOf (n : Nt) : List (List (Int × Int)) := n.nodes.map Nd.ts
def spreadQ (n : Nt) (src ex : Int) : List Rat := exS ((pw n.c.f : Int) : Rat) ex 0 (unitL (1 + n.s).toNat src) (tsOf n)
theorem nodesB_at {c : Wd} {s : Int} : ∀ {l : List Nd} {k j : Nat} {nd : Nd}, nodesB c s k l = true → l[j]? = some nd → nd.ts.all (termB c s (k + j)) = true
  | [], _, _, _, _, h => by simp at h
  | e :: l, k, 0, nd, hb, h => by
    simp only [List.getElem?_cons_zero, Option.some.injEq] at h
    subst h
    simp only [nodesB, Bool.and_eq_true] at hb
    exact hb.1.2
  | e :: l, k, j + 1, nd, hb, h => by
    simp only [List.getElem?_cons_succ] at h
    simp only [nodesB, Bool.and_eq_true] at hb
    rw [show k + (j + 1) = k + 1 + j by omega]
    exact nodesB_at hb.2 h
theorem unit_set (m p : Nat) : (List.replicate m (0 : Rat)).set p 1 = unitL m p := by
  refine List.ext_getElem? fun j => ?_
  simp only [unitL, List.getElem?_set, List.getElem?_map, List.getElem?_replicate, List.length_replicate]
  by_cases h : j < m
  · rw [List.getElem?_range h]
    by_cases e : p = j
    · subst e; simp [h]
    · simp [h, e]; intro h3; omega
  · rw [List.getElem?_eq_none (by simpa using h)]
    simp [h]
    intro e; omega
theorem Bs.unit (k m : Nat) (p : Int) : Bs k (unitL m p) := by
  intro x hx
  simp only [unitL, List.mem_map] at hx
  obtain ⟨a, _, rfl⟩ := hx
  split
  · exact Bt.one k
  · exact Bt.zero k
theorem ev_zerosR (N : SysGLib L) (m : Nat) (hm : m ≤ 65536) : EvR L 131 [.int .i64 (m : Int)] 3 ((List.replicate m (0 : Rat)).map eQ) := by
  have hO := ev_rational_Of N.toRatGLib 0 (by omega)
  refine EvR.x N.network_zeros rfl rfl ?_
  (repeat' (refine AKM.x ?_; conv => whnf))
  refine MkR.go (enc := eO) none m rfl rfl (by omega) ?_
  (conv => whnf)
  skip
  refine AKM.loop1 (fun i => m - i) (fun (i : Nat) => i ≤ m) (fun i => [(9, .int .i64 i)]) (fun i => [(131006, 131006, .rw 3 ((fillO (List.replicate i 0) m).map eO))]) [] [] 0 (by first | exact (by (conv => whnf); exact ⟨rfl, rfl, rfl⟩) | (rw [← fillO_nil]; exact (by (conv => whnf); exact ⟨rfl, rfl, rfl⟩))) (by omega) ?_
  intro i p1 ih
  by_cases hi : i < m
  · have hl := fillO_len (l := List.replicate i (0 : Rat)) (m := m) (by simp; omega)
    have hs := fillO_set (l := List.replicate i (0 : Rat)) (m := m) (x := 0) (by simp; omega)
    rw [List.length_replicate] at hs
    (repeat' (first | (refine CmpP.go (fun hc => ?_) (fun hc => ?_) <;> first | (exfalso; omega) | (conv => whnf)) | (refine Req.go (by omega) ?_; conv => whnf) | (refine AKM.x ?_; conv => whnf) | (refine CallP.go (hO) ?_; conv => whnf)))
    refine StR.nat (enc := eO) (some 0) rfl (fun e => by cases e <;> rfl) (by omega) ?_
    (conv => whnf)
    (repeat' (refine OpP.add (by omega) ?_; conv => whnf))
    rw [hs]
    rw [show List.replicate i (0 : Rat) ++ [0] = List.replicate (i + 1) 0 by rw [List.replicate_succ']]
    exact AKM.back [] (by (conv => whnf); exact ⟨rfl, rfl, rfl⟩) (ih (i + 1) (by omega) (by omega))
  obtain rfl : i = m := by omega
  clear ih
  rw [fillO_full (by simp)]
  (repeat' (first | (refine CmpP.go (fun hc => ?_) (fun hc => ?_) <;> first | (exfalso; omega) | (conv => whnf)) | (refine AKM.x ?_; conv => whnf)))
  exact ⟨rfl, rfl, by simp, rfl, cl_eQs _⟩
theorem ev_spread (N : LinGLib L) (n : Nt) (src ex : Int) (hv : netB n = true) (hsm : SmallN (tsOf n)) (hnl : n.nodes.length ≤ 4) (hs : -1 ≤ src ∧ src ≤ n.s) (hex : InI ex) : Ev L 144 [.agg (encN n), .int .i64 src, .int .i64 ex] (.sl false ((spreadQ n src ex).map eQ)) := by
  rw [netB_iff] at hv
  obtain ⟨h1, h2, h3, h4, h5, h6⟩ := hv
  have hwf : 0 ≤ n.c.f ∧ n.c.f ≤ 62 := by unfold WV at h2; omega
  have hP := ev_rational_Of N.toRatGLib (pw n.c.f) (by have := pw_pos n.c.f; have := pw_le62 hwf.2; omega)
  have hO := ev_rational_Of N.toRatGLib 0 (by omega)
  have hI := ev_rational_Of N.toRatGLib 1 (by omega)
  refine Ev.x N.network_spread rfl rfl ?_
  (repeat' (first | (refine OpP.add (by omega) ?_; conv => whnf) | (refine AKM.x ?_; conv => whnf)))
  obtain ⟨m, hm⟩ : ∃ m : Nat, 1 + n.s = m := ⟨_, (Int.toNat_of_nonneg (by omega)).symm⟩
  rw [hm]
  have hZ := ev_zerosR N.toSysGLib m (by omega)
  refine CallR.go (enc := eQ) m hZ (by simp) ?_
  (conv => whnf)
  have hu1 := pw_pos n.c.f
  have hu2 : (pw n.c.f).natAbs ≤ 2 ^ 24 := by
    have hf : n.c.f < 24 := by unfold WV at h2; omega
    have h9 : (2 : Nat) ^ n.c.f.toNat ≤ 2 ^ 24 := Nat.pow_le_pow_right (by omega) (by omega)
    rw [pw]
    exact_mod_cast h9
  have hu0 : ((pw n.c.f : Int) : Rat) ≠ 0 := by
    intro e
    have : pw n.c.f = 0 := by exact_mod_cast e
    omega
  have hlt : (tsOf n).length = n.nodes.length := by simp [tsOf]
  have hvals : ∀ j, j ≤ n.nodes.length → Bs 10625 (exS ((pw n.c.f : Int) : Rat) ex 0 (unitL m src) ((tsOf n).take j)) := by
    intro j hj
    have h := exS_bs (ex := ex) hu1 hu2 ((tsOf n).take j) 0 (unitL m src) ⟨fun ts h => hsm.len ts (List.mem_of_mem_take h), fun ts h => hsm.cf ts (List.mem_of_mem_take h)⟩ (Bs.unit _ _ _)
    have e : 0 + ((tsOf n).take j).length = j := by rw [List.length_take, hlt]; omega
    rw [e] at h
    intro x hx
    refine (h x hx).le ?_
    rcases j with _ | _ | _ | _ | _ | j
    · decide
    · decide
    · decide
    · decide
    · decide
    · omega
  have hvl : ∀ j, j ≤ n.nodes.length → (exS ((pw n.c.f : Int) : Rat) ex 0 (unitL m src) ((tsOf n).take j)).length = m + j := by
    intro j hj
    rw [exS_len, unitL_len, List.length_take, hlt]; omega
  have hst := exS_take ((pw n.c.f : Int) : Rat) ex (unitL m src) (tsOf n)
  have hfin : spreadQ n src ex = exS ((pw n.c.f : Int) : Rat) ex 0 (unitL m src) ((tsOf n).take n.nodes.length) := by
    rw [spreadQ, hm, Int.toNat_natCast, ← hlt, List.take_length]
  rw [hfin]
  clear hfin
  (repeat' (first | (refine CmpP.go (fun hc => ?_) (fun hc => ?_) <;> first | (exfalso; omega) | (conv => whnf)) | (refine OpP.shl1 (by omega) (fun _ _ => ?_); conv => whnf)))
  obtain ⟨p, rfl⟩ : ∃ p : Nat, src = p := ⟨_, (Int.toNat_of_nonneg (by omega)).symm⟩
  (repeat' (first | (refine Req.go (by omega) ?_; conv => whnf) | (refine CallP.go (hI) ?_; conv => whnf)))
  refine StR.at (enc := eQ) p 1 (by omega) rfl (fun _ => rfl) (by simp; omega) ?_
  (conv => whnf)
  rw [unit_set]
  rotate_left
  obtain rfl : src = -1 := by omega
  rw [← unitL_neg]
  all_goals
    (repeat' (first | (refine OpP.shl1 (by omega) (fun _ _ => ?_); conv => whnf) | (refine LenP.go ?_; conv => whnf) | (refine CallP.go (hP) ?_; conv => whnf)))
    generalize unitL m _ = w at *
    refine AKM.loop1 (fun j => n.nodes.length - j) (fun (j : Nat) => j ≤ n.nodes.length) (fun j => [(34, .int .i64 j), (7, .row 19 0 3 0 (m + j : Nat))]) (fun j => [(19, 19, .rw 3 ((exS ((pw n.c.f : Int) : Rat) ex 0 w ((tsOf n).take j)).map eQ))]) [] [] 0 (by (conv => whnf); exact ⟨rfl, rfl, rfl⟩) (by omega) ?_
    intro j p2 ih
    by_cases hj : j < n.nodes.length
    · obtain ⟨nd, hnd⟩ : ∃ nd, n.nodes[j]? = some nd := ⟨_, List.getElem?_eq_getElem hj⟩
      have hnd' : n.nodes[(j : Int).toNat]? = some nd := hnd
      have hts : (tsOf n)[j]? = some nd.ts := by simp [tsOf, hnd]
      have hbv := hvals j p2
      have hlv := hvl j p2
      have hstj := hst j nd.ts hts
      have htm := nodesB_at h4 hnd
      have hL : nd.ts.length ≤ 4 := hsm.len _ (List.mem_of_getElem? hts)
      have hC := hsm.cf _ (List.mem_of_getElem? hts)
      generalize hV : exS ((pw n.c.f : Int) : Rat) ex 0 w ((tsOf n).take j) = V at *
      (repeat' (first | (refine CmpP.go (fun hc => ?_) (fun hc => ?_) <;> first | (exfalso; omega) | (conv => whnf)) | (refine LenP.go ?_; conv => whnf) | (refine RdP.at (by assumption) (by omega) rfl ?_; conv => whnf) | (refine AKM.x ?_; conv => whnf) | (refine CallP.go (hO) ?_; conv => whnf)))
      refine AKM.loop2 (fun t _ => nd.ts.length - t) (fun (t : Nat) (acc : Rat) => t ≤ nd.ts.length ∧ acc = sumQ V (nd.ts.take t)) (fun t acc => [(43, .int .i64 t)]) (fun t acc => [(11, 11, .bx (eQ acc))]) [] [] 0 (0 : Rat) (by (conv => whnf); exact ⟨rfl, rfl, rfl⟩) ⟨by omega, rfl⟩ ?_
      intro t acc ⟨p3, p4⟩ jh
      have hsum : Bt 42600 acc := by
        rw [p4]
        have a1 := hbv.sum (nd.ts.take t) (j := 24) (fun e he => Bt.ofInt (hC e (List.mem_of_mem_take he)))
        refine a1.le (Nat.le_trans (Nat.mul_le_mul_right _ (show (nd.ts.take t).length ≤ 4 by rw [List.length_take]; omega)) (by decide))
      by_cases ht : t < nd.ts.length
      · obtain ⟨e, he⟩ : ∃ e, nd.ts[t]? = some e := ⟨_, List.getElem?_eq_getElem ht⟩
        have he' : nd.ts[(t : Int).toNat]? = some e := he
        have hme := List.mem_of_getElem? he
        have hok := List.all_eq_true.1 htm e hme
        simp only [termB, decide_eq_true_eq] at hok
        have hce := hC e hme
        obtain ⟨x, hx⟩ : ∃ x, V[e.1.toNat]? = some x := ⟨_, List.getElem?_eq_getElem (by omega)⟩
        have hxd : V.getD e.1.toNat 0 = x := by rw [List.getD_eq_getElem?_getD, hx]; rfl
        have hbx := hbv.at hx
        have hstk := sumQ_take (vals := V) he
        rw [hxd] at hstk
        have hSg := ev_signQ N.toRatGLib hbx (by omega)
        have hE := ev_rational_Of N.toRatGLib e.2 (by have : (2 : Nat) ^ 24 = 16777216 := rfl; omega)
        have hM := ev_mulQ N.toRatGLib (Bt.ofInt hce) hbx (by omega) (by omega)
        have hA := ev_addQ N.toRatGLib hsum ((Bt.ofInt hce).mul hbx) (by omega) (by omega)
        have z1 := sgn_num (x := x)
        generalize sgn x.num = sx at *
        by_cases q1 : e.2 = 0
        · (repeat' (first | (refine CmpP.go (fun hc => ?_) (fun hc => ?_) <;> first | (exfalso; omega) | (conv => whnf)) | (refine OpP.add (by omega) ?_; conv => whnf) | (refine RdP.at (by assumption) (by omega) rfl ?_; conv => whnf) | (refine AKM.x ?_; conv => whnf)))
          exact AKM.back [] (by (conv => whnf); exact ⟨rfl, rfl, rfl⟩) (jh (t + 1) acc (by omega) ⟨by omega, by rw [hstk, q1, show ((0 : Int) : Rat) = 0 from rfl, Rat.zero_mul, Rat.add_zero]; exact p4⟩)
        · by_cases q2 : sx = 0
          · have hx0 := z1.1 q2
            (repeat' (first | (refine CmpP.go (fun hc => ?_) (fun hc => ?_) <;> first | (exfalso; omega) | (conv => whnf)) | (refine Req.go (by omega) ?_; conv => whnf) | (refine RdP.at (by assumption) (by omega) rfl ?_; conv => whnf) | (refine LdR.int (by omega) (fun _ => rfl) (fun v hv => ?_); conv => whnf) | (refine AKM.x ?_; conv => whnf)))
            cases hx.symm.trans hv
            (repeat' (first | (refine CmpP.go (fun hc => ?_) (fun hc => ?_) <;> first | (exfalso; omega) | (conv => whnf)) | (refine OpP.add (by omega) ?_; conv => whnf) | (refine CallP.go (hSg) ?_; conv => whnf)))
            exact AKM.back [] (by (conv => whnf); exact ⟨rfl, rfl, rfl⟩) (jh (t + 1) acc (by omega) ⟨by omega, by rw [hstk, hx0, Rat.mul_zero, Rat.add_zero]; exact p4⟩)
          · (repeat' (first | (refine CmpP.go (fun hc => ?_) (fun hc => ?_) <;> first | (exfalso; omega) | (conv => whnf)) | (refine Req.go (by omega) ?_; conv => whnf) | (refine RdP.at (by assumption) (by omega) rfl ?_; conv => whnf) | (refine LdR.int (by omega) (fun _ => rfl) (fun v hv => ?_); conv => whnf) | (refine AKM.x ?_; conv => whnf)))
            cases hx.symm.trans hv
            (repeat' (first | (refine CmpP.go (fun hc => ?_) (fun hc => ?_) <;> first | (exfalso; omega) | (conv => whnf)) | (refine Req.go (by omega) ?_; conv => whnf) | (refine LdR.int (by omega) (fun _ => rfl) (fun v hv => ?_); conv => whnf) | (refine CallP.go (hSg) ?_; conv => whnf) | (refine CallP.go (hE) ?_; conv => whnf)))
            cases hx.symm.trans hv
            (repeat' (first | (refine OpP.add (by omega) ?_; conv => whnf) | (refine CallP.go (hM) ?_; conv => whnf) | (refine CallP.go (hA) ?_; conv => whnf)))
            exact AKM.back [] (by (conv => whnf); exact ⟨rfl, rfl, rfl⟩) (jh (t + 1) (acc + ((e.2 : Int) : Rat) * x) (by omega) ⟨by omega, by rw [hstk, ← p4]⟩)
      · obtain rfl : t = nd.ts.length := by omega
        clear jh
        rw [List.take_length] at p4
        have hD := ev_divQ N.toRatGLib hsum (Bt.ofInt hu2) (by omega) (by omega) hu0
        rw [← p4] at hstj
        by_cases q5 : (j : Int) = ex
        · have hA1 := ev_addQ N.toRatGLib (hsum.divz hu1 hu2) (Bt.ofInt (k := 0) (z := 1) (by decide)) (by omega) (by omega)
          rw [if_pos q5] at hstj
          (repeat' (first | (refine CmpP.go (fun hc => ?_) (fun hc => ?_) <;> first | (exfalso; omega) | (conv => whnf)) | (refine RowP.e1 ?_; conv => whnf) | (refine AKM.x ?_; conv => whnf) | (refine CallP.go (hD) ?_; conv => whnf) | (refine CallP.go (hI) ?_; conv => whnf) | (refine CallP.go (hA1) ?_; conv => whnf)))
          refine AppR.one (enc := eQ) (acc / ((pw n.c.f : Int) : Rat) + ((1 : Int) : Rat)) rfl hlv.symm rfl (by omega) (by omega) ?_
          rw [show ((1 : Int) : Rat) = 1 from rfl, ← hstj, hvl (j + 1) (by omega)]
          (repeat' (refine OpP.add (by omega) ?_; conv => whnf))
          exact AKM.back [(19, 86)] (by (conv => whnf); exact ⟨rfl, rfl, rfl⟩) (ih (j + 1) (by omega) (by omega))
        · rw [if_neg q5, Rat.add_zero] at hstj
          (repeat' (first | (refine CmpP.go (fun hc => ?_) (fun hc => ?_) <;> first | (exfalso; omega) | (conv => whnf)) | (refine RowP.e1 ?_; conv => whnf) | (refine AKM.x ?_; conv => whnf) | (refine CallP.go (hD) ?_; conv => whnf)))
          refine AppR.one (enc := eQ) (acc / ((pw n.c.f : Int) : Rat)) rfl hlv.symm rfl (by omega) (by omega) ?_
          rw [← hstj, hvl (j + 1) (by omega)]
          (repeat' (refine OpP.add (by omega) ?_; conv => whnf))
          exact AKM.back [(19, 86)] (by (conv => whnf); exact ⟨rfl, rfl, rfl⟩) (ih (j + 1) (by omega) (by omega))
    · obtain rfl : j = n.nodes.length := by omega
      clear ih
      (repeat' (first | (refine CmpP.go (fun hc => ?_) (fun hc => ?_) <;> first | (exfalso; omega) | (conv => whnf)) | (refine AKM.x ?_; conv => whnf)))
      have hlv := hvl n.nodes.length p2
      refine SnR.all (enc := eQ) (fun _ => rfl) rfl (by omega) ?_
      exact FinP.go rfl (by simp only [Clean, true_and]; exact cl_eQs _)
end Go.Eng


/-
  Networks without rounding (layer 22): network_Linear.
-/
namespace Go.Eng
open F
attribute [local irreducible] AKM CmpP Req OpP UnP ConvP RdP LdR StR MkR LenP AppR AppN CpyR RowP SnR Bds SlS CallP CalP FinP pw LdM GetM SetM PutM MkM AppM SnM FlP CallR
set_option maxHeartbeats 4000000
variable {L : Lib}
/-- the exact system of a network -/
def linQ (n : Nt) : SysQ where
  a := n.next.map fun e => (List.range n.s.toNat).map fun (j : Nat) => (spreadQ n ((j : Int) + 1) (-1)).getD e.toNat 0
  b := n.next.map fun e => (spreadQ n 0 (-1)).getD e.toNat 0
  c := (List.range n.s.toNat).map fun (j : Nat) => (spreadQ n ((j : Int) + 1) (-1)).getD n.out.toNat 0
  d := (spreadQ n 0 (-1)).getD n.out.toNat 0
/-- a column that may be missing -/
abbrev eC : Option (List Rat) → List AV
  | none => [.nil]
  | some l => [.sl false (l.map eQ)]
def fillC (l : List (List Rat)) (m : Nat) : List (Option (List Rat)) := l.map some ++ List.replicate (m - l.length) none
theorem fillC_len {l : List (List Rat)} {m : Nat} (h : l.length ≤ m) : (fillC l m).length = m := by simp [fillC]; omega
theorem fillC_set {l : List (List Rat)} {m : Nat} {x : List Rat} (h : l.length < m) : (fillC l m).set l.length (some x) = fillC (l ++ [x]) m := by
  unfold fillC
  rw [List.set_append_right _ _ (by simp)]
  obtain ⟨k, hk⟩ : ∃ k, m - l.length = k + 1 := ⟨m - l.length - 1, by omega⟩
  rw [hk, List.length_map, Nat.sub_self, List.replicate_succ, List.set_cons_zero, List.length_append, List.length_singleton, show m - (l.length + 1) = k by omega]
  simp
theorem fillM_set {α : Type} (a b : α) {t m : Nat} (_ : t ≤ m) (h : t < m) : (List.replicate t a ++ List.replicate (m - t) b).set t a = List.replicate (t + 1) a ++ List.replicate (m - (t + 1)) b := by
  obtain ⟨k, hk⟩ : ∃ k, m - t = k + 1 := ⟨m - t - 1, by omega⟩
  rw [List.set_append_right _ _ (by simp), hk, List.length_replicate, Nat.sub_self, List.replicate_succ, List.set_cons_zero, show m - (t + 1) = k by omega, List.replicate_succ', List.append_assoc]
  rfl
/-- a list filled up -/
def fz {α : Type} (z : α) (l : List α) (m : Nat) : List α := l ++ List.replicate (m - l.length) z
theorem fz_len {α : Type} {z : α} {l : List α} {m : Nat} (h : l.length ≤ m) : (fz z l m).length = m := by simp [fz]; omega
theorem fz_len' {α : Type} (z : α) (l : List α) (m : Nat) : (fz z l m).length = l.length + (m - l.length) := by simp [fz]
theorem fz_set {α : Type} {z x : α} {l : List α} {m : Nat} (h : l.length < m) : (fz z l m).set l.length x = fz z (l ++ [x]) m := by
  unfold fz
  obtain ⟨k, hk⟩ : ∃ k, m - l.length = k + 1 := ⟨m - l.length - 1, by omega⟩
  rw [List.set_append_right _ _ (by simp), hk, Nat.sub_self, List.replicate_succ, List.set_cons_zero, List.length_append, List.length_singleton, show m - (l.length + 1) = k by omega, List.append_assoc]
  rfl
theorem fz_at {α : Type} {z : α} {l : List α} {m : Nat} (h : l.length < m) : (fz z l m)[l.length]? = some z := by
  unfold fz
  rw [List.getElem?_append_right (by omega), Nat.sub_self, List.getElem?_replicate, if_pos (by omega)]
theorem fz_full {α : Type} {z : α} {l : List α} {m : Nat} (h : l.length = m) : fz z l m = l := by simp [fz, h]
theorem fillC_full (l : List (List Rat)) : (fillC l l.length).map eC = l.map fun c => [AV.sl false (c.map eQ)] := by
  simp [fillC, Function.comp_def]
/-- the columns: what the unit sources give -/
def colsQ (n : Nt) (i : Nat) : List (List Rat) := (List.range i).map fun (j : Nat) => spreadQ n (j : Int) (-1)
theorem colsQ_succ (n : Nt) (i : Nat) : colsQ n (i + 1) = colsQ n i ++ [spreadQ n (i : Int) (-1)] := by simp [colsQ, List.range_succ]
theorem colsQ_len (n : Nt) (i : Nat) : (colsQ n i).length = i := by simp [colsQ]
theorem list_set_self {α : Type} {l : List α} {i : Nat} {x : α} (h : l[i]? = some x) : l.set i x = l := by
  refine List.ext_getElem? fun j => ?_
  rw [List.getElem?_set]
  split
  · rename_i e; subst e
    rw [h]; split
    · rfl
    · rename_i h2; rw [List.getElem?_eq_none (by omega)] at h; cases h
  · rfl
theorem take_snocA {α : Type} {l : List α} {i : Nat} {x : α} (h : l[i]? = some x) : l.take (i + 1) = l.take i ++ [x] := by
  rw [List.take_add_one, h]; rfl
theorem spreadQ_len (n : Nt) (src ex : Int) : (spreadQ n src ex).length = (1 + n.s).toNat + n.nodes.length := by
  simp only [spreadQ, exS_len, unitL_len, tsOf, List.length_map]
theorem spreadQ_bs (n : Nt) (src ex : Int) (h2 : WV n.c) (hsm : SmallN (tsOf n)) (hnl : n.nodes.length ≤ 4) : Bs 10625 (spreadQ n src ex) := by
  have hlt : (tsOf n).length = n.nodes.length := by simp [tsOf]
  have hu1 := pw_pos n.c.f
  have hu2 : (pw n.c.f).natAbs ≤ 2 ^ 24 := by
    have hf : n.c.f < 24 := by unfold WV at h2; omega
    have h9 : (2 : Nat) ^ n.c.f.toNat ≤ 2 ^ 24 := Nat.pow_le_pow_right (by omega) (by omega)
    rw [pw]
    exact_mod_cast h9
  have h := exS_bs (ex := ex) hu1 hu2 (tsOf n) 0 (unitL (1 + n.s).toNat src) hsm (Bs.unit _ _ _)
  rw [hlt, Nat.zero_add] at h
  intro x hx
  refine (h x hx).le ?_
  generalize n.nodes.length = j at hnl
  rcases j with _ | _ | _ | _ | _ | j
  · decide
  · decide
  · decide
  · decide
  · decide
  · omega
theorem hcolsat (n : Nt) (t : Nat) (j : Int) (h : 0 ≤ j ∧ j ≤ t) : (colsQ n (t + 1))[j.toNat]? = some (spreadQ n j (-1)) := by
  unfold colsQ
  rw [List.getElem?_map, List.getElem?_range (by omega), Option.map_some, Int.toNat_of_nonneg h.1]
theorem ev_Linear (I : FixedLib L) (N : LinGLib L) (n : Nt) (hv : netB n = true) (hsm : SmallN (tsOf n)) (hnl : n.nodes.length ≤ 4) : Ev L 146 [.agg (encN n)] (.tup [.agg (eS (linQ n)), .int .i64 0]) := by
  have hV := ev_network_Valid n I N.toNetLib
  rw [hv] at hV
  have hSp := fun (j : Int) (h : 0 ≤ j ∧ j ≤ n.s) => ev_spread N n j (-1) hv hsm hnl (by omega) (by unfold InI; omega)
  have hO := ev_rational_Of N.toRatGLib 0 (by omega)
  rw [netB_iff] at hv
  obtain ⟨h1, h2, h3, h4, h5, h6⟩ := hv
  have hnx : ∀ e ∈ n.next, 0 ≤ e ∧ e ≤ n.s + n.nodes.length := fun e he => by simpa using List.all_eq_true.1 h5 e he
  refine Ev.x N.network_Linear rfl rfl ?_
  (repeat' (first | (refine OpP.add (by omega) ?_; conv => whnf) | (refine AKM.x ?_; conv => whnf) | (refine CallP.go (hV) ?_; conv => whnf)))
  obtain ⟨m, hm⟩ : ∃ m : Nat, n.s = m := ⟨n.s.toNat, (Int.toNat_of_nonneg (by omega)).symm⟩
  rw [hm]
  unfold MkM
  refine ⟨⟨by omega, by omega, by simp only [roomMax]; omega, by omega⟩, ?_⟩
  rw [show ((m : Int) + 1).toNat = m + 1 by omega]
  (conv => whnf)
  skip
  refine AKM.mxN 18 18 (m + 1) rfl ?_
  skip
  rw [show List.replicate (m + 1) [AV.nil] = (fillC (colsQ n 0) (m + 1)).map eC by simp [fillC, colsQ]]
  refine AKM.loop1 (fun i => m + 1 - i) (fun (i : Nat) => i ≤ m + 1) (fun i => [(21, .int .i64 i)]) (fun i => [(18, 18, .rw 1 ((fillC (colsQ n i) (m + 1)).map eC))]) [] [] 0 (by (conv => whnf); exact ⟨rfl, rfl, rfl⟩) (by omega) ?_
  intro i p1 ih
  by_cases hi : i < m + 1
  · have hl := fillC_len (l := colsQ n i) (m := m + 1) (by rw [colsQ_len]; omega)
    have hst := fillC_set (l := colsQ n i) (m := m + 1) (x := spreadQ n (i : Int) (-1)) (by rw [colsQ_len]; omega)
    rw [colsQ_len, ← colsQ_succ] at hst
    have hS := hSp i (by omega)
    unfold encN at hS
    rw [hm] at hS
    (repeat' (first | (refine CmpP.go (fun hc => ?_) (fun hc => ?_) <;> first | (exfalso; omega) | (conv => whnf)) | (refine Req.go (by omega) ?_; conv => whnf) | (refine AKM.x ?_; conv => whnf) | (refine CallP.go (hS) ?_; conv => whnf)))
    refine StR.nat (enc := eC) (some (spreadQ n (i : Int) (-1))) rfl (fun e => by cases e <;> rfl) (by omega) ?_
    (conv => whnf)
    (repeat' (refine OpP.add (by omega) ?_; conv => whnf))
    rw [hst]
    exact AKM.back [] (by (conv => whnf); exact ⟨rfl, rfl, rfl⟩) (ih (i + 1) (by omega) (by omega))
  · obtain rfl : i = m + 1 := by omega
    clear ih
    (repeat' (first | (refine CmpP.go (fun hc => ?_) (fun hc => ?_) <;> first | (exfalso; omega) | (conv => whnf)) | (refine AKM.x ?_; conv => whnf)))
    refine CalP.walkC 1000 N.network_zero rfl rfl ?_
    (repeat' (refine AKM.x ?_; conv => whnf))
    unfold MkM
    refine ⟨⟨by omega, by omega, by simp only [roomMax]; omega, by omega⟩, ?_⟩
    rw [Int.toNat_natCast]
    (conv => whnf)
    have hZ := ev_zerosR N.toSysGLib m (by omega)
    refine CallR.go (enc := eQ) m hZ (by simp) ?_
    (conv => whnf)
    refine CallR.go (enc := eQ) m hZ (by simp) ?_
    (conv => whnf)
    (repeat' (refine CallP.go (hO) ?_; conv => whnf))
    refine AKM.loop1 (fun t => m - t) (fun (t : Nat) => t ≤ m) (fun t => [(16, .int .i64 t)]) (fun t => [(145006, 145006, .mx (List.replicate t (some (3, (List.replicate m (0 : Rat)).map eQ)) ++ List.replicate (m - t) none))]) [] [] 0 (by (conv => whnf); exact ⟨rfl, rfl, rfl⟩) (by omega) ?_
    intro t p4 th
    by_cases ht : t < m
    · (repeat' (first | (refine CmpP.go (fun hc => ?_) (fun hc => ?_) <;> first | (exfalso; omega) | (conv => whnf)) | (refine AKM.x ?_; conv => whnf)))
      refine CallR.go (enc := eQ) m hZ (by simp) ?_
      (conv => whnf)
      (repeat' (first | (refine Req.go (by omega) ?_; conv => whnf) | fail))
      unfold Req SetM
      refine ⟨by simp, by simp; omega, ?_⟩
      (conv => whnf)
      rw [show 0 + ((t : Int)).toNat = t by omega, fillM_set _ _ p4 ht]
      (repeat' (refine OpP.add (by omega) ?_; conv => whnf))
      exact AKM.back [] (by (conv => whnf); exact ⟨rfl, rfl, rfl⟩) (th (t + 1) (by omega) (by omega))
    obtain rfl : t = m := by omega
    clear th
    have hcs := hcolsat n t
    rw [show List.replicate t (some (3, List.map eQ (List.replicate t 0))) ++ List.replicate (t - t) none = mxR 3 eQ (fz (List.replicate t 0) [] t) by simp [mxR, fz], show List.replicate t (0 : Rat) = fz 0 [] t by simp [fz], show (fillC (colsQ n (t + 1)) (t + 1)).map eC = (colsQ n (t + 1)).map fun c => [AV.sl false (c.map eQ)] by rw [← fillC_full, colsQ_len]]
    (repeat' (first | (refine CmpP.go (fun hc => ?_) (fun hc => ?_) <;> first | (exfalso; omega) | (conv => whnf)) | (refine AKM.x ?_; conv => whnf)))
    refine ⟨rfl, ?_⟩
    (conv => whnf)
    (repeat' (refine LenP.go ?_; conv => whnf))
    have hsn : n.s.toNat = t := by omega
    have hnl2 : n.next.length = t := by omega
    have hcql := colsQ_len n (t + 1)
    refine AKM.loop1 (fun i => n.next.length - i) (fun (i : Nat) => i ≤ n.next.length) (fun i => [(37, .int .i64 i)]) (fun i => [(145006, 145006, .mx (mxR 3 eQ (fz (List.replicate t 0) ((linQ n).a.take i) t))), (145008, 145008, .rw 3 ((fz 0 ((linQ n).b.take i) t).map eQ))]) [] [] 0 (by (conv => whnf); exact ⟨rfl, rfl, rfl⟩) (by omega) ?_
    intro i q1 ih
    by_cases hi : i < n.next.length
    · obtain ⟨e, he⟩ : ∃ e, n.next[i]? = some e := ⟨_, List.getElem?_eq_getElem hi⟩
      have hx' : n.next[(i : Int).toNat]? = some e := he
      have hrow : (linQ n).a[i]? = some ((List.range t).map fun (j : Nat) => (spreadQ n ((j : Int) + 1) (-1)).getD e.toNat 0) := by
        rw [← hsn]; simp only [linQ, List.getElem?_map, he, Option.map_some]
      have hbe : (linQ n).b[i]? = some ((spreadQ n 0 (-1)).getD e.toNat 0) := by
        simp only [linQ, List.getElem?_map, he, Option.map_some]
      have hal : (linQ n).a.length = t := by simp [linQ, hnl2]
      have hbl : (linQ n).b.length = t := by simp [linQ, hnl2]
      have htk : ((linQ n).a.take i).length = i := by rw [List.length_take]; omega
      have htb : ((linQ n).b.take i).length = i := by rw [List.length_take]; omega
      have hA0 : fz (List.replicate t 0) ((linQ n).a.take i) t = (fz (List.replicate t 0) ((linQ n).a.take i) t).set i (fz 0 [] t) := by
        have := fz_at (z := List.replicate t (0 : Rat)) (l := (linQ n).a.take i) (m := t) (by omega)
        rw [htk] at this
        rw [show fz (0 : Rat) [] t = List.replicate t 0 by simp [fz]]
        exact (list_set_self this).symm
      have hAs := fz_set (z := List.replicate t (0 : Rat)) (l := (linQ n).a.take i) (m := t) (x := (List.range t).map fun (j : Nat) => (spreadQ n ((j : Int) + 1) (-1)).getD e.toNat 0) (by omega)
      have hBs := fz_set (z := (0 : Rat)) (l := (linQ n).b.take i) (m := t) (x := (spreadQ n 0 (-1)).getD e.toNat 0) (by omega)
      rw [htk, ← take_snocA hrow] at hAs
      rw [htb, ← take_snocA hbe] at hBs
      have hAl := fz_len (z := List.replicate t (0 : Rat)) (l := (linQ n).a.take i) (m := t) (by omega)
      have hBl := fz_len (z := (0 : Rat)) (l := (linQ n).b.take i) (m := t) (by omega)
      have hen := hnx e (List.mem_of_getElem? he)
      generalize fz (List.replicate t 0) ((linQ n).a.take i) t = A0 at *
      generalize fz (0 : Rat) ((linQ n).b.take i) t = B0 at *
      have hA1 : A0 = A0.set i (fz 0 ((List.range 0).map fun (j : Nat) => (spreadQ n ((j : Int) + 1) (-1)).getD e.toNat 0) t) := hA0
      (repeat' (first | (refine CmpP.go (fun hc => ?_) (fun hc => ?_) <;> first | (exfalso; omega) | (conv => whnf)) | (refine RdP.at (by assumption) (by omega) rfl ?_; conv => whnf) | (refine AKM.x ?_; conv => whnf)))
      refine AKM.loop1 (fun j => t - j) (fun (j : Nat) => j ≤ t) (fun j => [(44, .int .i64 j)]) (fun j => [(145006, 145006, .mx (mxR 3 eQ (A0.set i (fz 0 ((List.range j).map fun (j : Nat) => (spreadQ n ((j : Int) + 1) (-1)).getD e.toNat 0) t))))]) [] [] 0 (by first | exact (by (conv => whnf); exact ⟨rfl, rfl, rfl⟩) | (rw [← hA1]; exact (by (conv => whnf); exact ⟨rfl, rfl, rfl⟩))) (by omega) ?_
      intro j q2 jh
      have hcl : ((List.range j).map fun (j : Nat) => (spreadQ n ((j : Int) + 1) (-1)).getD e.toNat 0).length = j := by simp
      by_cases hj : j < t
      · have hcol := hcs ((j : Int) + 1) (by omega)
        have hxl := spreadQ_len n ((j : Int) + 1) (-1)
        have hxb := spreadQ_bs n ((j : Int) + 1) (-1) h2 hsm hnl
        obtain ⟨x, hx⟩ : ∃ x, (spreadQ n ((j : Int) + 1) (-1))[e.toNat]? = some x := ⟨_, List.getElem?_eq_getElem (by omega)⟩
        have hxd : (spreadQ n ((j : Int) + 1) (-1)).getD e.toNat 0 = x := by rw [List.getD_eq_getElem?_getD, hx]; rfl
        have hT := ev_trimQ N.toRatGLib (hxb.at hx) (by omega)
        have hcs2 := fz_set (z := (0 : Rat)) (l := (List.range j).map fun (j : Nat) => (spreadQ n ((j : Int) + 1) (-1)).getD e.toNat 0) (m := t) (x := x) (by omega)
        have hcl2 := fz_len (z := (0 : Rat)) (l := (List.range j).map fun (j : Nat) => (spreadQ n ((j : Int) + 1) (-1)).getD e.toNat 0) (m := t) (by omega)
        rw [hcl, show ((List.range j).map fun (j : Nat) => (spreadQ n ((j : Int) + 1) (-1)).getD e.toNat 0) ++ [x] = (List.range (j + 1)).map fun (j : Nat) => (spreadQ n ((j : Int) + 1) (-1)).getD e.toNat 0 by rw [List.range_succ, List.map_append, List.map_singleton, hxd]] at hcs2
        have hrw : (A0.set i (fz 0 ((List.range j).map fun (j : Nat) => (spreadQ n ((j : Int) + 1) (-1)).getD e.toNat 0) t))[i]? = some (fz 0 ((List.range j).map fun (j : Nat) => (spreadQ n ((j : Int) + 1) (-1)).getD e.toNat 0) t) := by
          rw [List.getElem?_set, if_pos rfl, if_pos (by omega)]
        have hsl : (A0.set i (fz 0 ((List.range j).map fun (j : Nat) => (spreadQ n ((j : Int) + 1) (-1)).getD e.toNat 0) t)).length = t := by rw [List.length_set]; omega
        (repeat' (first | (refine CmpP.go (fun hc => ?_) (fun hc => ?_) <;> first | (exfalso; omega) | (conv => whnf)) | (refine Req.go (by omega) ?_; conv => whnf) | (refine OpP.add (by omega) ?_; conv => whnf) | (refine LdR.int (by omega) (fun _ => rfl) (fun v hv => ?_); conv => whnf) | (refine LdM.nat (by omega) (fun r hr => ?_); conv => whnf) | (refine AKM.x ?_; conv => whnf)))
        cases hrw.symm.trans hr
        cases hcol.symm.trans hv
        (repeat' (first | (refine RdP.at (by assumption) (by omega) rfl ?_; conv => whnf) | (refine CallP.go (hT) ?_; conv => whnf)))
        refine Req.go (by rw [List.length_map]; omega) ?_
        (conv => whnf)
        (repeat' (refine GetM.ati (by assumption) ?_; conv => whnf))
        refine StR.nat (enc := eQ) x rfl (fun _ => rfl) (by omega) ?_
        (conv => whnf)
        rw [hcs2]
        refine PutM.nat (by simp only [fz_len' , hcl, List.length_map, List.length_range]; omega) ?_
        rw [List.set_set]
        (conv => whnf)
        (repeat' (refine OpP.add (by omega) ?_; conv => whnf))
        exact AKM.back [] (by (conv => whnf); exact ⟨rfl, rfl, rfl⟩) (jh (j + 1) (by omega) (by omega))
      · obtain rfl : j = t := by omega
        clear jh
        rw [fz_full hcl, hAs]
        have hcol := hcs 0 (by omega)
        have hxl := spreadQ_len n 0 (-1)
        have hxb := spreadQ_bs n 0 (-1) h2 hsm hnl
        obtain ⟨x, hx⟩ : ∃ x, (spreadQ n 0 (-1))[e.toNat]? = some x := ⟨_, List.getElem?_eq_getElem (by omega)⟩
        have hxd : (spreadQ n 0 (-1)).getD e.toNat 0 = x := by rw [List.getD_eq_getElem?_getD, hx]; rfl
        rw [hxd] at hBs
        have hT := ev_trimQ N.toRatGLib (hxb.at hx) (by omega)
        (repeat' (first | (refine CmpP.go (fun hc => ?_) (fun hc => ?_) <;> first | (exfalso; omega) | (conv => whnf)) | (refine Req.go (by omega) ?_; conv => whnf) | (refine LdR.int (by omega) (fun _ => rfl) (fun v hv => ?_); conv => whnf) | (refine AKM.x ?_; conv => whnf)))
        cases hcol.symm.trans hv
        (repeat' (first | (refine Req.go (by omega) ?_; conv => whnf) | (refine RdP.at (by assumption) (by omega) rfl ?_; conv => whnf) | (refine CallP.go (hT) ?_; conv => whnf)))
        refine StR.nat (enc := eQ) x rfl (fun _ => rfl) (by omega) ?_
        (conv => whnf)
        rw [hBs]
        (repeat' (refine OpP.add (by omega) ?_; conv => whnf))
        exact AKM.back [] (by (conv => whnf); exact ⟨rfl, rfl, rfl⟩) (ih (i + 1) (by omega) (by omega))
    · obtain rfl : i = n.next.length := by omega
      clear ih
      have hal : (linQ n).a.length = t := by simp [linQ, hnl2]
      have hbl : (linQ n).b.length = t := by simp [linQ, hnl2]
      rw [List.take_of_length_le (show (linQ n).a.length ≤ n.next.length by omega), List.take_of_length_le (show (linQ n).b.length ≤ n.next.length by omega), fz_full hal, fz_full hbl]
      (repeat' (first | (refine CmpP.go (fun hc => ?_) (fun hc => ?_) <;> first | (exfalso; omega) | (conv => whnf)) | (refine AKM.x ?_; conv => whnf)))
      refine AKM.loop1 (fun j => t - j) (fun (j : Nat) => j ≤ t) (fun j => [(78, .int .i64 j)]) (fun j => [(145010, 145010, .rw 3 ((fz 0 ((List.range j).map fun (j : Nat) => (spreadQ n ((j : Int) + 1) (-1)).getD n.out.toNat 0) t).map eQ))]) [] [] 0 (by (conv => whnf); exact ⟨rfl, rfl, rfl⟩) (by omega) ?_
      intro j q2 jh
      have hcl : ((List.range j).map fun (j : Nat) => (spreadQ n ((j : Int) + 1) (-1)).getD n.out.toNat 0).length = j := by simp
      by_cases hj : j < t
      · have hcol := hcs ((j : Int) + 1) (by omega)
        have hxl := spreadQ_len n ((j : Int) + 1) (-1)
        have hxb := spreadQ_bs n ((j : Int) + 1) (-1) h2 hsm hnl
        obtain ⟨x, hx⟩ : ∃ x, (spreadQ n ((j : Int) + 1) (-1))[n.out.toNat]? = some x := ⟨_, List.getElem?_eq_getElem (by omega)⟩
        have hxd : (spreadQ n ((j : Int) + 1) (-1)).getD n.out.toNat 0 = x := by rw [List.getD_eq_getElem?_getD, hx]; rfl
        have hT := ev_trimQ N.toRatGLib (hxb.at hx) (by omega)
        have hcs2 := fz_set (z := (0 : Rat)) (l := (List.range j).map fun (j : Nat) => (spreadQ n ((j : Int) + 1) (-1)).getD n.out.toNat 0) (m := t) (x := x) (by omega)
        have hcl2 := fz_len (z := (0 : Rat)) (l := (List.range j).map fun (j : Nat) => (spreadQ n ((j : Int) + 1) (-1)).getD n.out.toNat 0) (m := t) (by omega)
        rw [hcl, show ((List.range j).map fun (j : Nat) => (spreadQ n ((j : Int) + 1) (-1)).getD n.out.toNat 0) ++ [x] = (List.range (j + 1)).map fun (j : Nat) => (spreadQ n ((j : Int) + 1) (-1)).getD n.out.toNat 0 by rw [List.range_succ, List.map_append, List.map_singleton, hxd]] at hcs2
        (repeat' (first | (refine CmpP.go (fun hc => ?_) (fun hc => ?_) <;> first | (exfalso; omega) | (conv => whnf)) | (refine Req.go (by omega) ?_; conv => whnf) | (refine OpP.add (by omega) ?_; conv => whnf) | (refine LdR.int (by omega) (fun _ => rfl) (fun v hv => ?_); conv => whnf) | (refine AKM.x ?_; conv => whnf)))
        cases hcol.symm.trans hv
        (repeat' (first | (refine Req.go (by omega) ?_; conv => whnf) | (refine RdP.at (by assumption) (by omega) rfl ?_; conv => whnf) | (refine CallP.go (hT) ?_; conv => whnf)))
        refine StR.nat (enc := eQ) x rfl (fun _ => rfl) (by omega) ?_
        (conv => whnf)
        rw [hcs2]
        (repeat' (refine OpP.add (by omega) ?_; conv => whnf))
        exact AKM.back [] (by (conv => whnf); exact ⟨rfl, rfl, rfl⟩) (jh (j + 1) (by omega) (by omega))
      · obtain rfl : j = t := by omega
        clear jh
        rw [fz_full hcl]
        have hcol := hcs 0 (by omega)
        have hxl := spreadQ_len n 0 (-1)
        have hxb := spreadQ_bs n 0 (-1) h2 hsm hnl
        obtain ⟨x, hx⟩ : ∃ x, (spreadQ n 0 (-1))[n.out.toNat]? = some x := ⟨_, List.getElem?_eq_getElem (by omega)⟩
        have hxd : (spreadQ n 0 (-1)).getD n.out.toNat 0 = x := by rw [List.getD_eq_getElem?_getD, hx]; rfl
        have hT := ev_trimQ N.toRatGLib (hxb.at hx) (by omega)
        have hd : (linQ n).d = x := hxd
        have hcc : (linQ n).c = (List.range j).map fun (j : Nat) => (spreadQ n ((j : Int) + 1) (-1)).getD n.out.toNat 0 := by rw [linQ, hsn]
        rw [← hcc]
        (repeat' (first | (refine CmpP.go (fun hc => ?_) (fun hc => ?_) <;> first | (exfalso; omega) | (conv => whnf)) | (refine Req.go (by omega) ?_; conv => whnf) | (refine LdR.int (by omega) (fun _ => rfl) (fun v hv => ?_); conv => whnf) | (refine AKM.x ?_; conv => whnf)))
        cases hcol.symm.trans hv
        (repeat' (first | (refine RdP.at (by assumption) (by omega) rfl ?_; conv => whnf) | (refine CallP.go (hT) ?_; conv => whnf)))
        have hcn : (linQ n).c.length = j := by rw [hcc, hcl]
        refine SnM.all (fun _ => rfl) rfl hal.symm ?_
        (conv => whnf)
        refine SnR.all (enc := eQ) (fun _ => rfl) rfl hbl.symm ?_
        (conv => whnf)
        refine SnR.all (enc := eQ) (fun _ => rfl) rfl hcn.symm ?_
        (conv => whnf)
        refine FinP.go (by rw [← hd]; rfl) ?_
        simp only [Clean, CleanL, and_true]
        exact cl_eS (linQ n)
end Go.Eng


/-
  A network whose coefficients are multiples of the unit is exact as long as nothing overflows (plain law).
-/
namespace Go.Eng
theorem intsQ_len (l : List Int) : (intsQ l).length = l.length := by simp [intsQ]
theorem intsQ_append (a b : List Int) : intsQ (a ++ b) = intsQ a ++ intsQ b := by simp [intsQ]
theorem intsQ_getD (l : List Int) (i : Nat) : (intsQ l).getD i 0 = ((l.getD i 0 : Int) : Rat) := by
  simp only [intsQ, List.getD_eq_getElem?_getD, List.getElem?_map]
  cases l[i]? <;> rfl
theorem sumQ_ints (vals : List Int) : ∀ ts, sumQ (intsQ vals) ts = ((sumP vals ts : Int) : Rat)
  | [] => rfl
  | t :: ts => by simp only [sumQ, sumP, sumQ_ints vals ts, intsQ_getD, Rat.intCast_add, Rat.intCast_mul]
theorem sumP_mult {u : Int} (vals : List Int) : ∀ ts : List (Int × Int), (∀ t ∈ ts, ∃ m, t.2 = u * m) → ∃ q, sumP vals ts = u * q
  | [], _ => ⟨0, by simp [sumP]⟩
  | t :: ts, h => by
    obtain ⟨m, hm⟩ := h t (by simp)
    obtain ⟨q, hq⟩ := sumP_mult vals ts (fun t ht => h t (by simp [ht]))
    exact ⟨m * vals.getD t.1.toNat 0 + q, by rw [sumP, hq, hm, Int.mul_add, Int.mul_assoc]⟩
def Mult (u : Int) (l : List Nd) : Prop := ∀ nd ∈ l, nd.ts.length ≤ 900 ∧ ∀ t ∈ nd.ts, (-16777216 ≤ t.2 ∧ t.2 ≤ 16777216) ∧ ∃ m, t.2 = u * m
variable {n : Nt}
theorem node_exact (hd : WV n.d) (hc : WV n.c) {vals : List Int} (hv : wordsB n.d vals = true) {nd : Nd} (h1 : nd.ts.length ≤ 900) (h2 : ∀ t ∈ nd.ts, (-16777216 ≤ t.2 ∧ t.2 ≤ 16777216) ∧ ∃ m, t.2 = pw n.c.f * m) :
    ((nodeS n vals nd : Int) : Rat) = sumQ (intsQ vals) nd.ts / ((pw n.c.f : Int) : Rat) := by
  obtain ⟨q, hq⟩ := sumP_mult vals nd.ts fun t ht => (h2 t ht).2
  have hv' : ∀ v ∈ vals, FT n.d v := fun v hm => by simpa using List.all_eq_true.1 hv v hm
  have hu := pw_pos n.c.f
  have hu0 : ((pw n.c.f : Int) : Rat) ≠ 0 := by
    intro e
    have : pw n.c.f = 0 := by exact_mod_cast e
    omega
  unfold nodeS
  rw [sumS_plain vals (fun v h => FT_le (hv' v h)) nd.ts 0 0 (fun t ht => (h2 t ht).1) (by omega) (by omega), Int.zero_add, hq, shift_exact (by unfold WV at hc; omega) (by unfold WV at hd; omega), sumQ_ints, hq, Rat.intCast_mul, Rat.mul_comm, Rat.mul_div_cancel hu0]
theorem comp_exact (hd : WV n.d) (hc : WV n.c) : ∀ (l : List Nd) (vals : List Int) (k : Nat), wordsB n.d vals = true → Mult (pw n.c.f) l → (compS n vals false l).2 = false → intsQ (compS n vals false l).1 = exS ((pw n.c.f : Int) : Rat) (-1) k (intsQ vals) (l.map Nd.ts)
  | [], vals, k, _, _, _ => rfl
  | nd :: l, vals, k, hv, hm, h => by
    obtain ⟨f1, f2⟩ := comp_fine h
    obtain ⟨m1, m2⟩ := hm nd (by simp)
    have e0 : ¬ (k : Int) = -1 := by omega
    rw [f2] at h ⊢
    rw [comp_exact hd hc l _ (k + 1) (by
      simp only [wordsB, List.all_append, Bool.and_eq_true, List.all_cons, List.all_nil, Bool.and_true, decide_eq_true_eq]
      exact ⟨hv, f1⟩) (fun x hx => hm x (by simp [hx])) h, List.map_cons, exS, if_neg e0, Rat.add_zero, intsQ_append, ← node_exact hd hc hv m1 m2]
    rfl
/-! the system -/
theorem dot_unit (i : Nat) : ∀ (z : List Rat) (k : Nat), dotQ ((List.range' k z.length).map fun (j : Nat) => if (i : Int) = (j : Int) then (1 : Rat) else 0) z = if k ≤ i then z.getD (i - k) 0 else 0
  | [], k => by simp [dotQ]
  | x :: z, k => by
    simp only [List.length_cons, List.range'_succ, List.map_cons, dotQ]
    rw [dot_unit i z (k + 1)]
    by_cases h : i = k
    · subst h
      rw [if_pos rfl, if_neg (by omega), if_pos (by omega), Nat.sub_self]
      simp [Rat.add_zero]
    · rw [if_neg (by omega), Rat.zero_mul, Rat.zero_add]
      by_cases h2 : k ≤ i
      · rw [if_pos (by omega), if_pos h2, show i - k = (i - (k + 1)) + 1 by omega]
        rfl
      · rw [if_neg (by omega), if_neg h2]
theorem unit_lin (z : List Rat) : LinV ((List.range z.length).map fun (j : Nat) => unitL z.length (j : Int)) z z := by
  intro i hi
  rw [List.map_map]
  have e : (List.range z.length).map ((fun c => List.getD c i 0) ∘ fun (j : Nat) => unitL z.length (j : Int)) = (List.range z.length).map fun (j : Nat) => if (i : Int) = (j : Int) then (1 : Rat) else 0 := by
    refine List.map_congr_left fun j _ => ?_
    simp only [Function.comp, unitL, List.getD_eq_getElem?_getD, List.getElem?_map, List.getElem?_range hi]
    rfl
  rw [e, List.range_eq_range', dot_unit i z 0, if_pos (by omega), Nat.sub_zero]
theorem lin_at (hb : netB n = true) {x : Rat} {now : List Rat} (hl : (now.length : Int) = n.s) {m : Nat} (hm : m < 1 + now.length + n.nodes.length) :
    (exS ((pw n.c.f : Int) : Rat) (-1) 0 (x :: now) (tsOf n)).getD m 0 = dotQ ((List.range n.s.toNat).map fun (j : Nat) => (spreadQ n ((j : Int) + 1) (-1)).getD m 0) now + (spreadQ n 0 (-1)).getD m 0 * x := by
  obtain ⟨h1, h2, h3, h4, h5, h6⟩ := (netB_iff n).1 hb
  have hu := pw_pos n.c.f
  have hu0 : ((pw n.c.f : Int) : Rat) ≠ 0 := by
    intro e
    have : pw n.c.f = 0 := by exact_mod_cast e
    omega
  have H := LinV.all hu0 (tsOf n) 0 _ _ (unit_lin (x :: now)) (fun c hc => by
    obtain ⟨j, _, rfl⟩ := List.mem_map.1 hc
    exact unitL_len _ _) (fun i ts hi t ht => by
    simp only [tsOf, List.getElem?_map] at hi
    cases hn : n.nodes[i]? with
    | none => rw [hn] at hi; cases hi
    | some nd =>
      rw [hn] at hi
      cases hi
      have := List.all_eq_true.1 (nodesB_at h4 hn) t ht
      simp only [termB, decide_eq_true_eq] at this
      simp only [List.length_cons]
      omega) m (by rw [exS_len]; simp [tsOf]; omega)
  rw [H, List.map_map, List.map_map, List.length_cons, List.range_succ_eq_map, List.map_cons, dotQ, List.map_map, Rat.add_comm]
  have e1 : n.s.toNat = now.length := by omega
  have e2 : (1 + n.s).toNat = now.length + 1 := by omega
  rw [e1]
  congr 1
  · congr 1
    refine List.map_congr_left fun j _ => ?_
    simp only [Function.comp, spreadQ, e2]
    rfl
  · simp only [Function.comp, spreadQ, e2]
    rfl
theorem nextQ_map {α : Type} (now : List Rat) (x : Rat) (f : α → List Rat) (g : α → Rat) : ∀ l : List α, nextQ now x (l.map f) (l.map g) = l.map fun e => dotQ (f e) now + g e * x
  | [] => rfl
  | e :: l => by simp only [List.map_cons, nextQ, nextQ_map now x f g l]
theorem lin_step (hb : netB n = true) {x : Rat} {now : List Rat} (hl : (now.length : Int) = n.s) :
    (linQ n).out now x = (exS ((pw n.c.f : Int) : Rat) (-1) 0 (x :: now) (tsOf n)).getD n.out.toNat 0 ∧ (linQ n).next now x = n.next.map fun e => (exS ((pw n.c.f : Int) : Rat) (-1) 0 (x :: now) (tsOf n)).getD e.toNat 0 := by
  obtain ⟨h1, h2, h3, h4, h5, h6⟩ := (netB_iff n).1 hb
  refine ⟨?_, ?_⟩
  · rw [lin_at hb hl (by omega)]; rfl
  · simp only [SysQ.next, linQ, nextQ_map]
    refine List.map_congr_left fun e he => ?_
    have := List.all_eq_true.1 h5 e he
    simp only [decide_eq_true_eq] at this
    rw [lin_at hb hl (by omega)]
/-- a run without an overflow is that of the system -/
theorem run_exactQ (hb : netB n = true) (hm : Mult (pw n.c.f) n.nodes) : ∀ (xs st outs : List Int) (k : Int), wordsB n.d xs = true → wordsB n.d st = true → (st.length : Int) = n.s → (runA n outs st k xs).2.2 = k →
    intsQ (runA n outs st k xs).1 = intsQ outs ++ (linQ n).outs (intsQ st) (intsQ xs) ∧ intsQ (runA n outs st k xs).2.1 = (linQ n).state (intsQ st) (intsQ xs)
  | [], st, outs, k, _, _, _, _ => ⟨by simp [runA, intsQ, SysQ.outs], rfl⟩
  | x :: xs, st, outs, k, h1, h2, h3, h4 => by
    obtain ⟨g1, g2, g3, g4, g5, g6⟩ := (netB_iff n).1 hb
    simp only [wordsB, List.all_cons, Bool.and_eq_true] at h1
    have hw : wordsB n.d (x :: st) = true := by
      simp only [wordsB, List.all_cons, Bool.and_eq_true]; exact ⟨h1.1, h2⟩
    rw [runA] at h4 ⊢
    have hc := runA_cnt n xs (outs ++ [(compS n (x :: st) false n.nodes).1.getD n.out.toNat 0]) (follS n (compS n (x :: st) false n.nodes).1) (if (compS n (x :: st) false n.nodes).2 then k + 1 else k)
    cases hf : (compS n (x :: st) false n.nodes).2
    · rw [hf] at hc h4
      simp only [Bool.false_eq_true, if_false] at h4 hc ⊢
      have hE := comp_exact g1 g2 n.nodes (x :: st) 0 hw hm hf
      have hcl := comp_len n n.nodes (x :: st) false
      obtain ⟨s1, s2⟩ := lin_step (x := ((x : Int) : Rat)) (now := intsQ st) hb (by rw [intsQ_len]; exact h3)
      rw [show ((x : Int) : Rat) :: intsQ st = intsQ (x :: st) from rfl, show tsOf n = n.nodes.map Nd.ts from rfl, ← hE] at s1 s2
      have s3 : (linQ n).next (intsQ st) ((x : Int) : Rat) = intsQ (follS n (compS n (x :: st) false n.nodes).1) := by
        show (linQ n).next (intsQ st) ((x : Int) : Rat) = _
        rw [s2]
        simp only [follS, intsQ, List.map_map]
        refine List.map_congr_left fun e _ => ?_
        exact intsQ_getD _ _
      obtain ⟨r1, r2⟩ := run_exactQ hb hm xs (follS n (compS n (x :: st) false n.nodes).1) (outs ++ [(compS n (x :: st) false n.nodes).1.getD n.out.toNat 0]) k h1.2 (foll_words n (comp_words n g1 n.nodes (x :: st) false hw) g5 (by simp at hcl; omega)) (by simp [follS]; omega) h4
      refine ⟨?_, ?_⟩
      · rw [r1, intsQ_append, List.append_assoc]
        congr 1
        show _ = (linQ n).out (intsQ st) ((x : Int) : Rat) :: (linQ n).outs ((linQ n).next (intsQ st) ((x : Int) : Rat)) (intsQ xs)
        rw [s1, intsQ_getD, show (linQ n).next (intsQ st) ((x : Int) : Rat) = _ from s3]
        rfl
      · rw [r2]
        show _ = (linQ n).state ((linQ n).next (intsQ st) ((x : Int) : Rat)) (intsQ xs)
        rw [show (linQ n).next (intsQ st) ((x : Int) : Rat) = _ from s3]
    · rw [hf] at hc h4
      simp only [if_true] at hc h4
      omega
end Go.Eng

