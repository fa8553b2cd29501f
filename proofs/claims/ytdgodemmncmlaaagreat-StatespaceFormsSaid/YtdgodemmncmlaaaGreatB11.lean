/-
  Networks without rounding (layer 22): network_Linear.
-/
import Derived.Test.YtdgodemmncmlaaaGreatB10
import Derived.Test.YtdgodemmncmlaaaGreatB9
import Derived.Test.YtdgodemmncmlaaaGreatB4
import Derived.Test.YtdgodemmncmlaaaGreatB3
import Derived.Test.YtdgodemmncmlaaaGreatB7
set_option linter.unusedSimpArgs false
set_option linter.unusedVariables false
set_option linter.unnecessarySimpa false
namespace Go.Eng
open F
attribute [local irreducible] AKM CmpP Req OpP UnP ConvP RdP LdR StR MkR LenP AppR AppN CpyR RowP SnR Bds SlS CallP CalP FinP pw LdM GetM SetM PutM MkM AppM SnM FlP CallR
set_option maxHeartbeats 4000000
variable {L:Lib}
theorem fillM_set {α:Type} (a b:α) {t m:Nat} (_:t≤m) (h:t<m):(List.replicate t a++List.replicate (m-t) b).set t a=List.replicate (t+1) a++List.replicate (m-(t+1)) b:=by
 obtain ⟨k,hk⟩ : ∃ k,m-t=k+1:=⟨m-t-1,by omega⟩
 rw[List.set_append_right _ _ (by simp),hk,List.length_replicate,Nat.sub_self,List.replicate_succ,List.set_cons_zero,show m-(t+1)=k by omega,List.replicate_succ',List.append_assoc]
 rfl
def fz {α:Type} (z:α) (l:List α) (m:Nat):List α:=l++List.replicate (m-l.length) z
theorem fz_len {α:Type} {z:α} {l:List α} {m:Nat} (h:l.length≤m):(fz z l m).length=m:=by simp [fz];omega
theorem fz_set {α:Type} {z x:α} {l:List α} {m:Nat} (h:l.length<m):(fz z l m).set l.length x=fz z (l++[x]) m:=by
 unfold fz
 obtain ⟨k,hk⟩ : ∃ k,m-l.length=k+1:=⟨m-l.length-1,by omega⟩
 rw[List.set_append_right _ _ (by simp),hk,Nat.sub_self,List.replicate_succ,List.set_cons_zero,List.length_append,List.length_singleton,show m-(l.length+1)=k by omega,List.append_assoc]
 rfl
theorem fz_at {α:Type} {z:α} {l:List α} {m:Nat} (h:l.length<m):(fz z l m)[l.length]? = some z:=by
 unfold fz
 rw[List.getElem?_append_right (by omega),Nat.sub_self,List.getElem?_replicate,if_pos (by omega)]
theorem fz_full {α:Type} {z:α} {l:List α} {m:Nat} (h:l.length=m):fz z l m=l:=by simp [fz,h]
theorem take_snocA {α:Type} {l:List α} {i:Nat} {x:α} (h:l[i]? = some x):l.take (i+1)=l.take i++[x]:=by
 rw[List.take_add_one,h];rfl
end Go.Eng
namespace Go.Eng
def colQ (m:List (List Rat)) (j:Nat):List Rat:=m.map fun r=>r.getD j 0
def mulRow (r:List Rat) (m:List (List Rat)) (n:Nat):List Rat:=(List.range n).map fun j=>dotQ r (colQ m j)
def mulQ (a m:List (List Rat)) (n:Nat):List (List Rat):=a.map fun r=>mulRow r m n
def trQ (m:List (List Rat)):Nat→Rat
 | 0=>0
 | i+1=>trQ m i+(m.getD i []).getD i 0
def addD (m:List (List Rat)) (c:Rat) (i:Nat):List (List Rat):=(List.range m.length).map fun r=>if r<i then (m.getD r []).set r ((m.getD r []).getD r 0+c) else m.getD r []
def idQ (n:Nat):List (List Rat):=(List.range n).map fun i:Nat=>unitL n i
def cofOf (p:List (List Rat)) (n k:Nat):Rat:=trQ p n*Rat.divInt (-1) (k:Int)
def flM (a:List (List Rat)) (n:Nat):Nat→List (List Rat)
 | 0=>idQ n
 | k+1=>addD (mulQ a (flM a n k) n) (cofOf (mulQ a (flM a n k) n) n (k+1)) n
def cofQ (a:List (List Rat)) (n k:Nat):Rat:=cofOf (mulQ a (flM a n k) n) n (k+1)
def belowQ (a:List (List Rat)) (n k:Nat):List Rat:=1::(List.range k).map (cofQ a n)
def mvQ (m:List (List Rat)) (b:List Rat):List Rat:=m.map fun r=>dotQ r b
def aboveQ (S:SysQ) (n k:Nat):List Rat:=0::(List.range k).map fun i=>dotQ S.c (mvQ (flM S.a n i) S.b)
theorem colQ_len (m:List (List Rat)) (j:Nat):(colQ m j).length=m.length:=by simp [colQ]
theorem mulRow_len (r:List Rat) (m:List (List Rat)) (n:Nat):(mulRow r m n).length=n:=by simp [mulRow]
theorem mulQ_len (a m:List (List Rat)) (n:Nat):(mulQ a m n).length=a.length:=by simp [mulQ]
theorem addD_len (m:List (List Rat)) (c:Rat) (i:Nat):(addD m c i).length=m.length:=by simp [addD]
theorem mvQ_len (m:List (List Rat)) (b:List Rat):(mvQ m b).length=m.length:=by simp [mvQ]
theorem belowQ_len (a:List (List Rat)) (n k:Nat):(belowQ a n k).length=k+1:=by simp [belowQ]
theorem aboveQ_len (S:SysQ) (n k:Nat):(aboveQ S n k).length=k+1:=by simp [aboveQ]
theorem belowQ_succ (a:List (List Rat)) (n k:Nat):belowQ a n (k+1)=belowQ a n k++[cofQ a n k]:=by simp [belowQ,List.range_succ]
theorem aboveQ_succ (S:SysQ) (n k:Nat):aboveQ S n (k+1)=aboveQ S n k++[dotQ S.c (mvQ (flM S.a n k) S.b)]:=by simp [aboveQ,List.range_succ]
structure Sq (n:Nat) (m:List (List Rat)):Prop where
 l:m.length=n
 r : ∀ r∈m,r.length=n
theorem Sq.at {n:Nat} {m:List (List Rat)} (h:Sq n m) {i:Nat} {r:List Rat} (hr:m[i]? = some r):r.length=n:=h.r r (List.mem_of_getElem? hr)
theorem Sq.mul {n:Nat} {a:List (List Rat)} (h:a.length=n) (m:List (List Rat)):Sq n (mulQ a m n):=by
 refine ⟨by rw[mulQ_len,h],fun r hr => ?_⟩
 obtain ⟨x,_,rfl⟩:=List.mem_map.1 hr
 exact mulRow_len _ _ _
theorem addD_at {m:List (List Rat)} {c:Rat} {i r:Nat} {row:List Rat} (h:m[r]? = some row):(addD m c i)[r]? = some (if r<i then row.set r (row.getD r 0+c) else row):=by
 have h1:=(List.getElem?_eq_some_iff.1 h).1
 have e:m.getD r []=row:=by rw[List.getD_eq_getElem?_getD,h];rfl
 simp only[addD,List.getElem?_map,List.getElem?_range h1,Option.map_some,e]
theorem Sq.addD {n:Nat} {m:List (List Rat)} (h:Sq n m) (c:Rat) (i:Nat):Sq n (addD m c i):=by
 refine ⟨by rw[addD_len,h.l],fun r hr => ?_⟩
 obtain ⟨j,hj⟩:=List.getElem?_of_mem hr
 have h1:=(List.getElem?_eq_some_iff.1 hj).1
 rw[addD_len]at h1
 obtain ⟨row,hrow⟩ : ∃ row,m[j]? = some row:=⟨_,List.getElem?_eq_getElem h1⟩
 rw[addD_at hrow]at hj
 obtain rfl:=Option.some.inj hj
 have:=h.at hrow
 split
 ·rw[List.length_set];exact this
 ·exact this
theorem addD_zero (m:List (List Rat)) (c:Rat):addD m c 0=m:=by
 refine List.ext_getElem? fun r => ?_
 cases e:m[r]? with
 | none=>rw[List.getElem?_eq_none (by rw[addD_len];exact List.getElem?_eq_none_iff.1 e)]
 | some row=>rw[addD_at e,if_neg (by omega)]
theorem addD_succ {m:List (List Rat)} {c:Rat} {i:Nat} {row:List Rat} (h:m[i]? = some row):addD m c (i+1)=(addD m c i).set i (row.set i (row.getD i 0+c)):=by
 refine List.ext_getElem? fun r => ?_
 rw[List.getElem?_set]
 cases e:m[r]? with
 | none =>
  have h1:=List.getElem?_eq_none_iff.1 e
  have h2:=(List.getElem?_eq_some_iff.1 h).1
  rw[List.getElem?_eq_none (by rw[addD_len];exact h1),if_neg (by omega),List.getElem?_eq_none (by rw[addD_len];exact h1)]
 | some rw' =>
  rw[addD_at e,addD_at e]
  by_cases hi:i=r
  ·subst hi
   obtain rfl:=Option.some.inj (h.symm.trans e)
   have h2:=(List.getElem?_eq_some_iff.1 h).1
   rw[if_pos (by omega),if_pos rfl,if_pos (by rw[addD_len];exact h2)]
  ·rw[if_neg hi]
   by_cases h3:r<i
   ·rw[if_pos (by omega),if_pos h3]
   ·rw[if_neg (by omega),if_neg h3]
theorem addD_next {m:List (List Rat)} {c:Rat} {i:Nat} {row:List Rat} (h:m[i]? = some row):(addD m c i)[i]? = some row:=by rw[addD_at h,if_neg (by omega)]
theorem Sq.id (n:Nat):Sq n (idQ n):=by
 refine ⟨by simp [idQ],fun r hr => ?_⟩
 obtain ⟨i,_,rfl⟩:=List.mem_map.1 hr
 exact unitL_len _ _
theorem Sq.fl {n:Nat} {a:List (List Rat)} (h:a.length=n) : ∀ k,Sq n (flM a n k)
 | 0=>Sq.id n
 | k+1=>(Sq.mul h _).addD _ _
def Ms (k:Nat) (m:List (List Rat)):Prop := ∀ r∈m,Bs k r
theorem Ms.at {k:Nat} {m:List (List Rat)} (h:Ms k m) {i:Nat} {r:List Rat} (hr:m[i]? = some r):Bs k r:=h r (List.mem_of_getElem? hr)
theorem Ms.getD {k:Nat} {m:List (List Rat)} (h:Ms k m) (i j:Nat):Bt k ((m.getD i []).getD j 0):=by
 rw[List.getD_eq_getElem?_getD,List.getD_eq_getElem?_getD]
 cases e:m[i]? with
 | none=>exact Bt.zero k
 | some r =>
  simp only[Option.getD_some]
  cases e2:r[j]? with
  | none=>exact Bt.zero k
  | some x=>exact (h.at e).at e2
theorem Ms.le {k j:Nat} {m:List (List Rat)} (h:Ms k m) (hj:k≤j):Ms j m:=fun r hr=>(h r hr).le hj
theorem Ms.col {k:Nat} {m:List (List Rat)} (h:Ms k m) (j:Nat):Bs k (colQ m j):=by
 intro x hx
 obtain ⟨r,hr,rfl⟩:=List.mem_map.1 hx
 rw[List.getD_eq_getElem?_getD]
 cases e:r[j]? with
 | none=>exact Bt.zero k
 | some x=>exact (h r hr).at e
theorem Ms.mul {n k s:Nat} {a m:List (List Rat)} (ha:Ms k a) (hs:Sq n a) (hm:Ms s m):Ms (n*(k+s+1)) (mulQ a m n):=by
 intro r hr x hx
 obtain ⟨r,h1,rfl⟩:=List.mem_map.1 hr
 obtain ⟨j,_,rfl⟩:=List.mem_map.1 hx
 have:=(ha r h1).dot (hm.col j)
 rw[hs.r r h1]at this
 exact this
theorem Ms.tr {k:Nat} {m:List (List Rat)} (h:Ms k m) : ∀ i,Bt (i*(k+1)) (trQ m i)
 | 0=>Bt.zero _
 | i+1=>by
  refine ((Ms.tr h i).add (h.getD i i)).le ?_
  rw[Nat.succ_mul];omega
theorem Ms.addD {k j:Nat} {m:List (List Rat)} (h:Ms k m) {c:Rat} (hc:Bt j c) (i:Nat):Ms (k+j+1) (addD m c i):=by
 intro r hr
 obtain ⟨q,hq⟩:=List.getElem?_of_mem hr
 have h1:=(List.getElem?_eq_some_iff.1 hq).1
 rw[addD_len]at h1
 obtain ⟨row,hrow⟩ : ∃ row,m[q]? = some row:=⟨_,List.getElem?_eq_getElem h1⟩
 rw[addD_at hrow]at hq
 obtain rfl:=Option.some.inj hq
 have hb:=h.at hrow
 split
 ·intro x hx
  rcases List.mem_or_eq_of_mem_set hx with hx|rfl
  ·exact (hb x hx).le (by omega)
  ·refine Bt.add ?_ hc
   rw[List.getD_eq_getElem?_getD]
   cases e:row[q]? with
   | none=>exact Bt.zero k
   | some x=>exact hb.at e
 ·exact hb.le (by omega)
theorem Ms.id (n k:Nat):Ms k (idQ n):=by
 intro r hr x hx
 obtain ⟨i,_,rfl⟩:=List.mem_map.1 hr
 simp only[unitL,List.mem_map]at hx
 obtain ⟨a,_,rfl⟩:=hx
 split
 ·exact Bt.one k
 ·exact Bt.zero k
theorem bt_inv {k:Nat} (hk:k≤7):Bt 3 (Rat.divInt (-1) (k:Int)):=by
 rw[Rat.divInt_ofNat]
 refine Bt.mk ?_ ?_
 ·decide
 ·show k≤8;omega
def flK:Nat→Nat
 | 0=>0
 | k+1=>20*flK k+1400
theorem Ms.fl {n:Nat} {a:List (List Rat)} (hs:Sq n a) (ha:Ms 64 a) (hn:n≤4) : ∀ k,k≤4→Ms (flK k) (flM a n k)∧Ms (4*(flK k+65)) (mulQ a (flM a n k) n)∧Bt (16*(flK k+65)+10) (cofQ a n k):=by
 have key : ∀ k,k≤4→Ms (flK k) (flM a n k)→Ms (4*(flK k+65)) (mulQ a (flM a n k) n)∧Bt (16*(flK k+65)+10) (cofQ a n k):=fun k hk h=>by
  have h1:Ms (4*(flK k+65)) (mulQ a (flM a n k) n):=(Ms.mul ha hs h).le (Nat.mul_le_mul hn (by omega))
  refine ⟨h1,?_⟩
  refine ((h1.tr n).mul (bt_inv (k:=k+1) (by omega))).le ?_
  have:=Nat.mul_le_mul_right (4*(flK k+65)+1) hn
  generalize flK k=f at this ⊢
  generalize hX:4*(f+65)+1=X at this ⊢
  generalize n*X=Y at this ⊢
  omega
 intro k
 induction k with
 | zero=>exact fun hk=>⟨Ms.id n _,key 0 hk (Ms.id n _)⟩
 | succ k ih =>
  intro hk
  obtain ⟨h1,h2,h3⟩:=ih (by omega)
  have h4:Ms (flK (k+1)) (flM a n (k+1)):=(h2.addD h3 n).le (by show _≤20*flK k+1400;omega)
  exact ⟨h4,key (k+1) hk h4⟩
theorem flK_le : ∀ k,k≤4→flK k≤12000000:=by decide
end Go.Eng

namespace Go.Eng
variable {L:Lib}
def mdelL:List Nat→Mem→Mem
 | [],M=>M
 | j::r,M=>mdelL r (mdel j M)
theorem AKM.fgt1 {kk:List It} {tm:Tm} {M:Mem} {Q:Tm→Mem→Prop} (j:Nat) (h:AKM L kk tm (mdel j M) Q):AKM L kk tm M Q:=by
 intro σ st hr
 exact h σ st ⟨hr.tm,⟨fun k s c e=>hr.sat.site k s c (mget_mdel e).2,fun k t c e=>hr.sat.blk k t c (mref_mdel e).2,fun k t c e=>hr.sat.old k t c (mref_mdel e).2,fun k t k' t' c c' e e'=>hr.sat.inj k t k' t' c c' (mref_mdel e).2 (mref_mdel e').2⟩⟩
theorem AKM.fgt {kk:List It} {tm:Tm} {Q:Tm→Mem→Prop} : ∀ (ks:List Nat) {M:Mem},AKM L kk tm (mdelL ks M) Q→AKM L kk tm M Q
 | [],_,h=>h
 | j::r,_,h=>AKM.fgt1 j (AKM.fgt r h)
end Go.Eng

namespace Go.Eng
open F
attribute [local irreducible] AKM CmpP Req OpP UnP ConvP RdP LdR StR MkR LenP AppR AppN CpyR RowP SnR Bds SlS CallP CalP FinP pw LdM GetM SetM PutM MkM AppM SnM FlP CallR
set_option maxHeartbeats 16000000
variable {L:Lib}
def tfA (S:SysQ) (n:Nat):List Rat:=trimQ (belowQ S.a n n)
def tfB (S:SysQ) (n:Nat):List Rat:=trimQ (addP (aboveQ S n n) (trimQ ((belowQ S.a n n).map (· * S.d))))
def idP (n i:Nat):List (List Rat):=(List.range n).map fun r:Nat=>if r<i then unitL n r else List.replicate n 0
theorem idP_len (n i:Nat):(idP n i).length=n:=by simp [idP]
theorem idP_zero (n:Nat):idP n 0=List.replicate n (List.replicate n 0):=by
 refine List.ext_getElem? fun r => ?_
 simp only[idP,List.getElem?_map,List.getElem?_replicate]
 by_cases h:r<n
 ·rw[List.getElem?_range h,if_pos h];simp
 ·rw[List.getElem?_eq_none (by simp;omega),if_neg h];rfl
theorem idP_full (n:Nat):idP n n=idQ n:=by
 refine List.map_congr_left fun r hr => ?_
 rw[if_pos (List.mem_range.1 hr)]
theorem idP_at {n i:Nat} (h:i<n):(idP n i)[i]? = some (List.replicate n 0):=by
 simp only[idP,List.getElem?_map,List.getElem?_range h,Option.map_some,Nat.lt_irrefl,if_false]
theorem idP_set {n i:Nat} (h:i<n):(idP n i).set i ((List.replicate n 0).set i 1)=idP n (i+1):=by
 refine List.ext_getElem? fun r => ?_
 rw[List.getElem?_set,idP_len,unit_set]
 simp only[idP,List.getElem?_map]
 by_cases hr:r<n
 ·rw[List.getElem?_range hr]
  by_cases e:i=r
  ·subst e;simp [h]
  ·simp only[e,if_false,Option.map_some]
   by_cases h3:r<i
   ·rw[if_pos h3,if_pos (by omega)]
   ·rw[if_neg h3,if_neg (by omega)]
 ·rw[List.getElem?_eq_none (by simp;omega)]
  simp;omega
def cf (l:List Rat) (prev:List (Option Rat)) (i:Nat):List (Option Rat):=(l.take i).map some++prev.drop i
theorem cf_len {l:List Rat} {prev:List (Option Rat)} {i n:Nat} (hl:l.length=n) (hp:prev.length=n) (hi:i≤n):(cf l prev i).length=n:=by
 simp [cf];omega
theorem cf_zero (l:List Rat) (prev:List (Option Rat)):cf l prev 0=prev:=by simp [cf]
theorem cf_full {l:List Rat} {prev:List (Option Rat)} {n:Nat} (hl:l.length=n) (hp:prev.length=n):cf l prev n=l.map some:=by
 rw[cf,List.take_of_length_le (by omega),List.drop_of_length_le (by omega),List.append_nil]
theorem cf_set {l:List Rat} {prev:List (Option Rat)} {i n:Nat} {x:Rat} (hp:prev.length=n) (hx:l[i]? = some x) (hi:i<n):(cf l prev i).set i (some x)=cf l prev (i+1):=by
 have hli:=(List.getElem?_eq_some_iff.1 hx).1
 have htl:((l.take i).map some).length=i:=by rw[List.length_map,List.length_take];omega
 obtain ⟨y,hy⟩ : ∃ y,prev[i]? = some y:=⟨_,List.getElem?_eq_getElem (by omega)⟩
 obtain ⟨hi2,he2⟩:=List.getElem?_eq_some_iff.1 hy
 rw[cf,List.set_append_right _ _ (by omega),htl,Nat.sub_self,List.drop_eq_getElem_cons hi2,List.set_cons_zero,cf,take_snoc' hx,List.map_append]
 simp
theorem map_some_eO (l:List Rat):(l.map some).map eO=l.map eQ:=by simp [Function.comp_def]
def ot (P:List (List Rat)) (n j i:Nat):List (List (Option Rat)):=(List.range P.length).map fun r=>fillO ((P.getD r []).take (if r<i then j+1 else j)) n
theorem ot_len (P:List (List Rat)) (n j i:Nat):(ot P n j i).length=P.length:=by simp [ot]
theorem getD_row {P:List (List Rat)} {i:Nat} {row:List Rat} (h:P[i]? = some row):P.getD i []=row:=by rw[List.getD_eq_getElem?_getD,h];rfl
theorem ot_at {P:List (List Rat)} {n j i r:Nat} {row:List Rat} (h:P[r]? = some row):(ot P n j i)[r]? = some (fillO (row.take (if r<i then j+1 else j)) n):=by
 have h1:=(List.getElem?_eq_some_iff.1 h).1
 simp only[ot,List.getElem?_map,List.getElem?_range h1,Option.map_some,getD_row h]
theorem ot_set {P:List (List Rat)} {n j i:Nat} {row:List Rat} (h:P[i]? = some row):(ot P n j i).set i (fillO (row.take (j+1)) n)=ot P n j (i+1):=by
 refine List.ext_getElem? fun r => ?_
 rw[List.getElem?_set,ot_len]
 cases e:P[r]? with
 | none =>
  have h1:=List.getElem?_eq_none_iff.1 e
  have h2:=(List.getElem?_eq_some_iff.1 h).1
  rw[List.getElem?_eq_none (by rw[ot_len];exact h1),if_neg (by omega),List.getElem?_eq_none (by rw[ot_len];exact h1)]
 | some rw' =>
  rw[ot_at e,ot_at e]
  by_cases hi:i=r
  ·subst hi
   obtain rfl:=Option.some.inj (h.symm.trans e)
   have h2:=(List.getElem?_eq_some_iff.1 h).1
   rw[if_pos rfl,if_pos h2,if_pos (by omega)]
  ·rw[if_neg hi]
   by_cases h3:r<i
   ·rw[if_pos h3,if_pos (by omega)]
   ·rw[if_neg h3,if_neg (by omega)]
theorem ot_next (P:List (List Rat)) (n j:Nat):ot P n j P.length=ot P n (j+1) 0:=by
 refine List.map_congr_left fun r hr => ?_
 rw[if_pos (List.mem_range.1 hr),if_neg (by omega)]
theorem ot_zero (P:List (List Rat)) (n:Nat):ot P n 0 0=List.replicate P.length (fillO [] n):=by
 refine List.ext_getElem? fun r => ?_
 simp only[ot,List.getElem?_map,List.getElem?_replicate]
 by_cases h:r<P.length
 ·rw[List.getElem?_range h,if_pos h];simp
 ·rw[List.getElem?_eq_none (by simp;omega),if_neg h];rfl
theorem ot_full {P:List (List Rat)} {n:Nat} (h : ∀ r∈P,r.length=n):mxR 3 eO (ot P n n 0)=mxR 3 eQ P:=by
 refine List.ext_getElem? fun r => ?_
 simp only[mxR,List.getElem?_map]
 cases e:P[r]? with
 | none=>rw[List.getElem?_eq_none (by rw[ot_len];exact List.getElem?_eq_none_iff.1 e)];rfl
 | some row =>
  have hl:=h row (List.mem_of_getElem? e)
  rw[ot_at e,if_neg (by omega),List.take_of_length_le (by omega)]
  simp only[Option.map_some,fillO_full hl]
theorem ev_Transfer (N:TrGLib L) (S:SysQ) (n:Nat) (h:S.Ok n 64) (hn:n≤4):Ev L 189 [.agg (eS S)] (.tup [.agg [.sl false ((tfB S n).map eQ),.sl false ((tfA S n).map eQ)],.int .i64 0]):=by
 have hSd:=ev_Sound N.toSysGLib S n 64 h (by omega)
 have hO:=ev_rational_Of N.toRatGLib 0 (by omega)
 have hI:=ev_rational_Of N.toRatGLib 1 (by omega)
 have hla:=h.la
 subst hla
 refine Ev.x N.network_Transfer rfl rfl ?_
 (repeat' (first|(refine CmpP.go (fun hc => ?_) (fun hc => ?_)<;>first|(exfalso;omega)|(conv=>whnf))|(refine LenP.go ?_;conv=>whnf)|(refine AKM.x ?_;conv=>whnf)|(refine CallP.go (hSd) ?_;conv=>whnf)|(refine CallP.go (hO) ?_;conv=>whnf)|(refine CallP.go (hI) ?_;conv=>whnf)))
 refine CalP.walkC 1000 N.network_zero rfl rfl ?_
 (repeat' (refine AKM.x ?_;conv=>whnf))
 unfold MkM
 refine ⟨⟨by omega,by omega,by simp only[roomMax];omega,by omega⟩,?_⟩
 rw[Int.toNat_natCast]
 (conv=>whnf)
 have hZ:=ev_zerosR N.toSysGLib S.a.length (by omega)
 refine CallR.go (enc:=eQ) S.a.length hZ (by simp) ?_
 (conv=>whnf)
 refine CallR.go (enc:=eQ) S.a.length hZ (by simp) ?_
 (conv=>whnf)
 (repeat' (refine CallP.go (hO) ?_;conv=>whnf))
 generalize hm:S.a.length=m at *
 refine AKM.loop1 (fun t=>m-t) (fun (t:Nat)=>t≤m) (fun t=>[(16,.int .i64 t)]) (fun t=>[(145006,145006,.mx (List.replicate t (some (3,(List.replicate m (0:Rat)).map eQ))++List.replicate (m-t) none))]) [] [] 0 (by (conv=>whnf);exact ⟨rfl,rfl,rfl⟩) (by omega) ?_
 intro t p4 th
 by_cases ht:t<m
 ·(repeat' (first|(refine CmpP.go (fun hc => ?_) (fun hc => ?_)<;>first|(exfalso;omega)|(conv=>whnf))|(refine AKM.x ?_;conv=>whnf)))
  refine CallR.go (enc:=eQ) m hZ (by simp) ?_
  (conv=>whnf)
  (repeat' (first|(refine Req.go ?_ ?_;omega;conv=>whnf)|fail))
  unfold Req SetM
  refine ⟨by simp,by simp;omega,?_⟩
  (conv=>whnf)
  rw[show 0+((t:Int)).toNat=t by omega,fillM_set _ _ p4 ht]
  (repeat' (refine OpP.add ?_ ?_;omega;conv=>whnf))
  exact AKM.back [] (by (conv=>whnf);exact ⟨rfl,rfl,rfl⟩) (th (t+1) (by omega) (by omega))
 obtain rfl:t=m:=by omega
 clear th
 rw[show List.replicate t (some (3,List.map eQ (List.replicate t 0)))++List.replicate (t-t) none=mxR 3 eQ (idP t 0) by rw[idP_zero];simp [mxR]]
 (repeat' (first|(refine CmpP.go (fun hc => ?_) (fun hc => ?_)<;>first|(exfalso;omega)|(conv=>whnf))|(refine AKM.x ?_;conv=>whnf)))
 refine ⟨rfl,?_⟩
 (conv=>whnf)
 skip
 refine AKM.loop1 (fun i=>t-i) (fun (i:Nat)=>i≤t) (fun i=>[(34,.int .i64 i)]) (fun i=>[(145006,145006,.mx (mxR 3 eQ (idP t i)))]) [] [] 0 (by (conv=>whnf);exact ⟨rfl,rfl,rfl⟩) (by omega) ?_
 intro i p1 ih
 by_cases hi:i<t
 ·have hat:=idP_at hi
  have hst:=idP_set hi
  have hil:=idP_len t i
  generalize idP t i=I0 at *
  (repeat' (first|(refine CmpP.go (fun hc => ?_) (fun hc => ?_)<;>first|(exfalso;omega)|(conv=>whnf))|(refine Req.go ?_ ?_;omega;conv=>whnf)|(refine LdM.nat ?_ (fun r hr => ?_);omega;conv=>whnf)|(refine AKM.x ?_;conv=>whnf)|(refine CallP.go (hI) ?_;conv=>whnf)))
  cases hat.symm.trans hr
  refine Req.go (by rw[List.length_map,List.length_replicate];omega) ?_
  (conv=>whnf)
  (repeat' (refine GetM.ati (by assumption) ?_;conv=>whnf))
  refine StR.nat (enc:=eQ) 1 rfl (fun _=>rfl) (by rw[List.length_replicate];omega) ?_
  (conv=>whnf)
  refine PutM.nat (by rw[List.length_set]) ?_
  rw[hst]
  (conv=>whnf)
  (repeat' (refine OpP.add ?_ ?_;omega;conv=>whnf))
  exact AKM.back [] (by (conv=>whnf);exact ⟨rfl,rfl,rfl⟩) (ih (i+1) (by omega) (by omega))
 obtain rfl:i=t:=by omega
 clear ih
 rw[idP_full]
 rw[show ([[AV.bool (decide (((1:Int):Rat).num<0)),AV.sl false ((dg ((1:Int):Rat).num.natAbs).map e32),AV.sl false ((dg ((1:Int):Rat).den).map e32)]]:List (List AV))=(belowQ S.a i 0).map eQ from rfl,
  show ([[AV.bool (decide (((0:Int):Rat).num<0)),AV.sl false ((dg ((0:Int):Rat).num.natAbs).map e32),AV.sl false ((dg ((0:Int):Rat).den).map e32)]]:List (List AV))=(aboveQ S i 0).map eQ from rfl]
 (repeat' (first|(refine CmpP.go (fun hc => ?_) (fun hc => ?_)<;>first|(exfalso;omega)|(conv=>whnf))|(refine AKM.x ?_;conv=>whnf)))
 have hsq:Sq i S.a:=⟨hm,h.lr⟩
 refine AKM.fgt [145002,145003] ?_
 refine AKM.loop2 (fun k _=>i-k) (fun (k _:Nat)=>k≤i) (fun k _=>[(9,.int .i64 ((k+1:Nat):Int)),(5,.row 27 0 3 0 (k+1)),(6,.row 29 0 3 0 (k+1)),(7,.row 145006 0 1 0 i)]) (fun k t=>[(27,27,.rw 3 ((belowQ S.a i k).map eQ)),(29,29,.rw 3 ((aboveQ S i k).map eQ)),(145006,t,.mx (mxR 3 eQ (flM S.a i k)))]) [] [] 0 145006 (by (conv=>whnf);exact ⟨rfl,rfl,rfl⟩) (by omega) ?_
 intro k t p2 kh
 by_cases hk:k<i
 ·obtain ⟨b1,b2,b3⟩:=Ms.fl hsq h.ba hn k (by omega)
  have hKk:=flK_le k (by omega)
  have hMs:=Sq.fl (a:=S.a) hm k
  have hMl:=hMs.l
  have hfl:flM S.a i (k+1)=addD (mulQ S.a (flM S.a i k) i) (cofQ S.a i k) i:=rfl
  have hcf:cofQ S.a i k=trQ (mulQ S.a (flM S.a i k) i) i*Rat.divInt (-1) ((k+1:Nat):Int):=rfl
  have hab:=aboveQ_succ S i k
  have hbe:=belowQ_succ S.a i k
  have hal:=aboveQ_len S i k
  have hbl:=belowQ_len S.a i k
  have hPs:=Sq.mul hm (flM S.a i k)
  generalize flM S.a i k=Mk at *
  generalize cofQ S.a i k=ck at *
  generalize aboveQ S i k=ab at *
  generalize belowQ S.a i k=be at *
  generalize flK k=fk at *
  (repeat' (first|(refine CmpP.go (fun hc => ?_) (fun hc => ?_)<;>first|(exfalso;omega)|(conv=>whnf))|(refine AKM.x ?_;conv=>whnf)))
  refine MkR.go (enc:=eO) none i rfl rfl (by omega) ?_
  (conv=>whnf)
  skip
  have himl:=mvQ_len Mk S.b
  have himg : ∀ (j:Nat) row,Mk[j]? = some row→(mvQ Mk S.b)[j]? = some (dotQ row S.b):=fun j row hr=>by rw[mvQ,List.getElem?_map,hr];rfl
  have himb:Bs (4*(fk+65)) (mvQ Mk S.b):=by
   intro x hx
   obtain ⟨r,hr,rfl⟩:=List.mem_map.1 hx
   refine ((b1 r hr).dot h.bb).le ?_
   rw[hMs.r r hr]
   exact Nat.mul_le_mul hn (by omega)
  refine AKM.loop1 (fun j=>i-j) (fun (j:Nat)=>j≤i) (fun j=>[(53,.int .i64 j)]) (fun j=>[(51,51,.rw 3 ((fillO ((mvQ Mk S.b).take j) i).map eO))]) [] [] 0 (by first|exact (by (conv=>whnf);exact ⟨rfl,rfl,rfl⟩)|(rw[List.take_zero,←fillO_nil];exact (by (conv=>whnf);exact ⟨rfl,rfl,rfl⟩))) (by omega) ?_
  intro j q1 jh
  by_cases hj:j<i
  ·obtain ⟨row,hrow⟩ : ∃ row,Mk[j]? = some row:=⟨_,List.getElem?_eq_getElem (by omega)⟩
   have hrl:=hMs.at hrow
   have hy:=himg j row hrow
   have hP:=fun q q'=>ev_product N.toSysGLib row S.b q q' fk 64 (by rw[hrl,h.lb]) (b1.at hrow) h.bb (by rw[hrl];have:=Nat.mul_le_mul_right (fk+64+1) hn;omega) (by omega)
   have hlf:=fillO_len (l:=(mvQ Mk S.b).take j) (m:=i) (by rw[List.length_take];omega)
   have hst:=fillO_set (l:=(mvQ Mk S.b).take j) (m:=i) (x:=dotQ row S.b) (by rw[List.length_take];omega)
   rw[List.length_take,Nat.min_eq_left (by omega),←take_snoc' hy]at hst
   (repeat' (first|(refine CmpP.go (fun hc => ?_) (fun hc => ?_)<;>first|(exfalso;omega)|(conv=>whnf))|(refine Req.go ?_ ?_;omega;conv=>whnf)|(refine SnR.all (fun _=>rfl) rfl ?_ ?_;(first|rfl|simp);conv=>whnf)|(refine LdM.nat ?_ (fun r hr => ?_);omega;conv=>whnf)|(refine GetM.ati (by assumption) ?_;conv=>whnf)|(refine AKM.x ?_;conv=>whnf)))
   cases hrow.symm.trans hr
   (repeat' (first|(refine Req.go ?_ ?_;omega;conv=>whnf)|(refine CallP.go (hP _ _) ?_;conv=>whnf)))
   refine StR.nat (enc:=eO) (some (dotQ row S.b)) rfl (fun e=>by cases e<;>rfl) (by omega) ?_
   (conv=>whnf)
   (repeat' (refine OpP.add ?_ ?_;omega;conv=>whnf))
   rw[hst]
   exact AKM.back [] (by (conv=>whnf);exact ⟨rfl,rfl,rfl⟩) (jh (j+1) (by omega) (by omega))
  obtain rfl:j=i:=by omega
  clear jh
  rw[List.take_of_length_le (by omega),fillO_full (by omega)]
  have hP:=fun q q'=>ev_product N.toSysGLib S.c (mvQ Mk S.b) q q' 64 (4*(fk+65)) (by rw[h.lc];omega) h.bc himb (by rw[h.lc];have:=Nat.mul_le_mul_right (64+4*(fk+65)+1) hn;omega) (by rw[h.lc];omega)
  generalize mvQ Mk S.b=img at *
  generalize dotQ S.c img=av at *
  (repeat' (first|(refine CmpP.go (fun hc => ?_) (fun hc => ?_)<;>first|(exfalso;omega)|(conv=>whnf))|(refine AKM.x ?_;conv=>whnf)))
  refine SnR.all (enc:=eQ) (fun _=>rfl) rfl (by omega) ?_
  (conv=>whnf)
  (repeat' (first|(refine RowP.e1 ?_;conv=>whnf)|(refine CallP.go (hP _ _) ?_;conv=>whnf)))
  refine AppR.one (enc:=eQ) av rfl hal.symm rfl (by omega) (by omega) ?_
  rw[←hab,aboveQ_len]
  (conv=>whnf)
  skip
  refine CalP.walk 1000 N.network_times rfl rfl ?_
  (repeat' (first|(refine LenP.go ?_;conv=>whnf)|(refine AKM.x ?_;conv=>whnf)))
  unfold MkM
  refine ⟨⟨by omega,by omega,by simp only[roomMax];omega,by omega⟩,?_⟩
  rw[Int.toNat_natCast]
  (conv=>whnf)
  (repeat' (refine LenP.go ?_;conv=>whnf))
  rw[hm]
  refine MkR.go (enc:=eO) none j rfl rfl (by omega) ?_
  (conv=>whnf)
  (repeat' (refine LenP.go ?_;conv=>whnf))
  rw[hm]
  refine AKM.loop1 (fun u=>j-u) (fun (u:Nat)=>u≤j) (fun u=>[(19,.int .i64 u)]) (fun u=>[(188013,188013,.mx (List.replicate u (some (3,(fillO [] j).map eO))++List.replicate (j-u) none))]) [] [] 0 (by (conv=>whnf);exact ⟨rfl,rfl,rfl⟩) (by omega) ?_
  intro u r1 uh
  by_cases hu:u<j
  ·(repeat' (first|(refine CmpP.go (fun hc => ?_) (fun hc => ?_)<;>first|(exfalso;omega)|(conv=>whnf))|(refine LenP.go ?_;conv=>whnf)|(refine AKM.x ?_;conv=>whnf)))
   rw[hm]
   refine MkR.go (enc:=eO) none j rfl rfl (by omega) ?_
   (conv=>whnf)
   (repeat' (first|(refine Req.go ?_ ?_;omega;conv=>whnf)|fail))
   unfold Req SetM
   refine ⟨by simp,by simp;omega,?_⟩
   (conv=>whnf)
   rw[show 0+((u:Int)).toNat=u by omega,←fillO_nil,fillM_set _ _ r1 hu]
   (repeat' (refine OpP.add ?_ ?_;omega;conv=>whnf))
   exact AKM.back [] (by (conv=>whnf);exact ⟨rfl,rfl,rfl⟩) (uh (u+1) (by omega) (by omega))
  obtain rfl:u=j:=by omega
  clear uh
  have hPat : ∀ (e:Nat) row,S.a[e]? = some row→(mulQ S.a Mk u)[e]? = some (mulRow row Mk u):=fun e row hr=>by rw[mulQ,List.getElem?_map,hr];rfl
  have hPl:=hPs.l
  rw[show List.replicate u (some (3,List.map eO (fillO [] u)))++List.replicate (u-u) none=mxR 3 eO (ot (mulQ S.a Mk u) u 0 0) by rw[ot_zero,hPl];simp [mxR]]
  generalize hPg:mulQ S.a Mk u=P at *
  (repeat' (first|(refine CmpP.go (fun hc => ?_) (fun hc => ?_)<;>first|(exfalso;omega)|(conv=>whnf))|(refine LenP.go ?_;conv=>whnf)|(refine AKM.x ?_;conv=>whnf)))
  rw[hm]
  refine AKM.loop2 (fun c _=>u-c) (fun (c:Nat) (pv:List (Option Rat))=>c≤u∧pv.length=u) (fun c _=>[(31,.int .i64 c)]) (fun c pv=>[(188013,188013,.mx (mxR 3 eO (ot P u c 0))),(188016,188016,.rw 3 (pv.map eO))]) [] [] 0 (List.replicate u none) (by (conv=>whnf);exact ⟨rfl,rfl,rfl⟩) ⟨by omega,by simp⟩ ?_
  intro c pv ⟨r2,r3⟩ ch
  by_cases hc2:c<u
  ·have hcoll:=colQ_len Mk c
   (repeat' (first|(refine CmpP.go (fun hc => ?_) (fun hc => ?_)<;>first|(exfalso;omega)|(conv=>whnf))|(refine LenP.go ?_;conv=>whnf)|(refine AKM.x ?_;conv=>whnf)))
   rw[hm]
   refine AKM.loop1 (fun e=>u-e) (fun (e:Nat)=>e≤u) (fun e=>[(36,.int .i64 e)]) (fun e=>[(188016,188016,.rw 3 ((cf (colQ Mk c) pv e).map eO))]) [] [] 0 (by first|exact (by (conv=>whnf);exact ⟨rfl,rfl,rfl⟩)|(rw[cf_zero];exact (by (conv=>whnf);exact ⟨rfl,rfl,rfl⟩))) (by omega) ?_
   intro e r4 eh
   by_cases he2:e<u
   ·obtain ⟨row,hrow⟩ : ∃ row,Mk[e]? = some row:=⟨_,List.getElem?_eq_getElem (by omega)⟩
    have hrl:=hMs.at hrow
    obtain ⟨x,hx⟩ : ∃ x,row[c]? = some x:=⟨_,List.getElem?_eq_getElem (by omega)⟩
    have hcx:(colQ Mk c)[e]? = some x:=by rw[colQ,List.getElem?_map,hrow,Option.map_some,gD_of hx]
    have hcl:=cf_len (l:=colQ Mk c) (by omega) r3 r4
    have hst:=cf_set r3 hcx he2
    (repeat' (first|(refine CmpP.go (fun hc => ?_) (fun hc => ?_)<;>first|(exfalso;omega)|(conv=>whnf))|(refine Req.go ?_ ?_;omega;conv=>whnf)|(refine LdM.nat ?_ (fun r hr => ?_);omega;conv=>whnf)|(refine AKM.x ?_;conv=>whnf)))
    cases hrow.symm.trans hr
    refine Req.go (by rw[List.length_map];omega) ?_
    (conv=>whnf)
    (repeat' (first|(refine Req.go ?_ ?_;omega;conv=>whnf)|(refine LdR.nat ?_ (fun _=>rfl) (fun v hv => ?_);omega;conv=>whnf)|(refine GetM.ati (by assumption) ?_;conv=>whnf)))
    cases hx.symm.trans hv
    refine StR.nat (enc:=eO) (some x) rfl (fun e=>by cases e<;>rfl) (by omega) ?_
    (conv=>whnf)
    (repeat' (refine OpP.add ?_ ?_;omega;conv=>whnf))
    rw[hst]
    exact AKM.back [] (by (conv=>whnf);exact ⟨rfl,rfl,rfl⟩) (eh (e+1) (by omega) (by omega))
   obtain rfl:e=u:=by omega
   clear eh
   rw[cf_full (by omega) r3,map_some_eO]
   (repeat' (first|(refine CmpP.go (fun hc => ?_) (fun hc => ?_)<;>first|(exfalso;omega)|(conv=>whnf))|(refine LenP.go ?_;conv=>whnf)|(refine AKM.x ?_;conv=>whnf)))
   rw[hm]
   refine AKM.loop1 (fun f=>e-f) (fun (f:Nat)=>f≤e) (fun f=>[(52,.int .i64 f)]) (fun f=>[(188013,188013,.mx (mxR 3 eO (ot P e c f)))]) [] [] 0 (by (conv=>whnf);exact ⟨rfl,rfl,rfl⟩) (by omega) ?_
   intro f r5 fh
   by_cases hf2:f<e
   ·obtain ⟨row,hrow⟩ : ∃ row,S.a[f]? = some row:=⟨_,List.getElem?_eq_getElem (by omega)⟩
    have hrow':S.a[(f:Int).toNat]? = some row:=hrow
    have hrl:=hsq.at hrow
    have hPr:=hPat f row hrow
    have hDt:=fun q q'=>ev_product N.toSysGLib row (colQ Mk c) q q' 64 fk (by omega) (h.ba row (List.mem_of_getElem? hrow)) (b1.col c) (by rw[hrl];have:=Nat.mul_le_mul_right (64+fk+1) hn;omega) (by omega)
    have hoa:=ot_at (n:=e) (j:=c) (i:=f) hPr
    rw[if_neg (by omega)]at hoa
    have hos:=ot_set (n:=e) (j:=c) hPr
    have hol:=ot_len P e c f
    have hmc:(mulRow row Mk e)[c]? = some (dotQ row (colQ Mk c)):=by rw[mulRow,List.getElem?_map,List.getElem?_range hc2];rfl
    have hml:=mulRow_len row Mk e
    have hlf:=fillO_len (l:=(mulRow row Mk e).take c) (m:=e) (by rw[List.length_take];omega)
    have hst:=fillO_set (l:=(mulRow row Mk e).take c) (m:=e) (x:=dotQ row (colQ Mk c)) (by rw[List.length_take];omega)
    rw[List.length_take,Nat.min_eq_left (by omega),←take_snoc' hmc]at hst
    generalize ot P e c f=O at *
    (repeat' (first|(refine CmpP.go (fun hc => ?_) (fun hc => ?_)<;>first|(exfalso;omega)|(conv=>whnf))|(refine Req.go ?_ ?_;omega;conv=>whnf)|(refine RdP.at (by assumption) ?_ rfl ?_;omega;conv=>whnf)|(refine LdM.nat ?_ (fun r hr => ?_);omega;conv=>whnf)|(refine AKM.x ?_;conv=>whnf)))
    cases hoa.symm.trans hr
    refine SnR.all (enc:=eQ) (fun _=>rfl) rfl (by omega) ?_
    (conv=>whnf)
    (repeat' (refine CallP.go (hDt _ _) ?_;conv=>whnf))
    have hlf2:=fillO_len (l:=(mulRow row Mk e).take (c+1)) (m:=e) (by rw[List.length_take];omega)
    refine Req.go (by rw[List.length_map];omega) ?_
    (conv=>whnf)
    (repeat' (refine GetM.ati (by assumption) ?_;conv=>whnf))
    refine StR.nat (enc:=eO) (some (dotQ row (colQ Mk c))) rfl (fun e=>by cases e<;>rfl) (by omega) ?_
    (conv=>whnf)
    rw[hst]
    refine PutM.nat (by omega) ?_
    rw[hos]
    (conv=>whnf)
    (repeat' (refine OpP.add ?_ ?_;omega;conv=>whnf))
    exact AKM.back [] (by (conv=>whnf);exact ⟨rfl,rfl,rfl⟩) (fh (f+1) (by omega) (by omega))
   obtain rfl:f=e:=by omega
   clear fh
   have hnx:=ot_next P f c
   rw[hPl]at hnx
   rw[hnx,←map_some_eO (colQ Mk c)]
   (repeat' (first|(refine CmpP.go (fun hc => ?_) (fun hc => ?_)<;>first|(exfalso;omega)|(conv=>whnf))|(refine OpP.add ?_ ?_;omega;conv=>whnf)|(refine AKM.x ?_;conv=>whnf)))
   exact AKM.back [] (by (conv=>whnf);exact ⟨rfl,rfl,rfl⟩) (ch (c+1) ((colQ Mk c).map some) (by omega) ⟨by omega,by rw[List.length_map];omega⟩)
  obtain rfl:c=u:=by omega
  clear ch
  rw[ot_full hPs.r]
  (repeat' (first|(refine CmpP.go (fun hc => ?_) (fun hc => ?_)<;>first|(exfalso;omega)|(conv=>whnf))|(refine AKM.x ?_;conv=>whnf)))
  refine ⟨rfl,_,rfl,?_⟩
  (conv=>whnf)
  (repeat' (refine CallP.go (hO) ?_;conv=>whnf))
  have htr0:((0:Int):Rat)=trQ P 0:=rfl
  rw[htr0]
  refine AKM.loop1 (fun e=>c-e) (fun (e:Nat)=>e≤c) (fun e=>[(80,.int .i64 e)]) (fun e=>[(12,12,.bx (eQ (trQ P e)))]) [] [] 0 (by (conv=>whnf);exact ⟨rfl,rfl,rfl⟩) (by omega) ?_
  intro e r4 eh
  by_cases he2:e<c
  ·obtain ⟨row,hrow⟩ : ∃ row,P[e]? = some row:=⟨_,List.getElem?_eq_getElem (by omega)⟩
   have hrl:=hPs.at hrow
   obtain ⟨x,hx⟩ : ∃ x,row[e]? = some x:=⟨_,List.getElem?_eq_getElem (by omega)⟩
   have htx:trQ P (e+1)=trQ P e+x:=by rw[trQ,getD_row hrow,gD_of hx]
   have btr:=Ms.tr b2 e
   have hkb:e*(4*(fk+65)+1)≤4*(4*(fk+65)+1):=Nat.mul_le_mul_right _ (by omega)
   have hA:=ev_addQ N.toRatGLib btr ((b2.at hrow).at hx) (by omega) (by omega)
   rw[←htx]at hA
   (repeat' (first|(refine CmpP.go (fun hc => ?_) (fun hc => ?_)<;>first|(exfalso;omega)|(conv=>whnf))|(refine Req.go ?_ ?_;omega;conv=>whnf)|(refine LdM.nat ?_ (fun r hr => ?_);omega;conv=>whnf)|(refine AKM.x ?_;conv=>whnf)))
   cases hrow.symm.trans hr
   refine Req.go (by rw[List.length_map];omega) ?_
   (conv=>whnf)
   (repeat' (first|(refine LdR.nat ?_ (fun _=>rfl) (fun v hv => ?_);omega;conv=>whnf)|(refine GetM.ati (by assumption) ?_;conv=>whnf)))
   cases hx.symm.trans hv
   (repeat' (first|(refine OpP.add ?_ ?_;omega;conv=>whnf)|(refine CallP.go (hA) ?_;conv=>whnf)))
   exact AKM.back [] (by (conv=>whnf);exact ⟨rfl,rfl,rfl⟩) (eh (e+1) (by omega) (by omega))
  obtain rfl:e=c:=by omega
  clear eh
  have btr:=Ms.tr b2 e
  have hkb:e*(4*(fk+65)+1)≤4*(4*(fk+65)+1):=Nat.mul_le_mul_right _ (by omega)
  have hF:=ev_FracQ N.toRatHLib (-1) ((k+1:Nat):Int) (by omega) (by omega) (by omega)
  have hM:=ev_mulQ N.toRatGLib btr (bt_inv (k:=k+1) (by omega)) (by omega) (by omega)
  rw[←hcf]at hM
  (repeat' (first|(refine CmpP.go (fun hc => ?_) (fun hc => ?_)<;>first|(exfalso;omega)|(conv=>whnf))|(refine AKM.x ?_;conv=>whnf)|(refine CallP.go (hF) ?_;conv=>whnf)|(refine CallP.go (hM) ?_;conv=>whnf)))
  have hz0:=addD_zero P ck
  refine AKM.loop1 (fun f=>e-f) (fun (f:Nat)=>f≤e) (fun f=>[(98,.int .i64 f)]) (fun f=>[(188013,188013,.mx (mxR 3 eQ (addD P ck f)))]) [] [] 0 (by first|exact (by (conv=>whnf);exact ⟨rfl,rfl,rfl⟩)|(rw[hz0];exact (by (conv=>whnf);exact ⟨rfl,rfl,rfl⟩))) (by omega) ?_
  intro f r5 fh
  by_cases hf2:f<e
  ·obtain ⟨row,hrow⟩ : ∃ row,P[f]? = some row:=⟨_,List.getElem?_eq_getElem (by omega)⟩
   have hrl:=hPs.at hrow
   obtain ⟨x,hx⟩ : ∃ x,row[f]? = some x:=⟨_,List.getElem?_eq_getElem (by omega)⟩
   have hA:=ev_addQ N.toRatGLib ((b2.at hrow).at hx) b3 (by omega) (by omega)
   have hnx:=addD_next (c:=ck) hrow
   have hsu:=addD_succ (c:=ck) hrow
   rw[gD_of hx]at hsu
   have hdl:=addD_len P ck f
   generalize addD P ck f=D0 at *
   (repeat' (first|(refine CmpP.go (fun hc => ?_) (fun hc => ?_)<;>first|(exfalso;omega)|(conv=>whnf))|(refine Req.go ?_ ?_;omega;conv=>whnf)|(refine LdM.nat ?_ (fun r hr => ?_);omega;conv=>whnf)|(refine AKM.x ?_;conv=>whnf)))
   cases hnx.symm.trans hr
   cases hnx.symm.trans ‹D0[f]? = some r›
   refine Req.go (by rw[List.length_map];omega) ?_
   (conv=>whnf)
   (repeat' (first|(refine LdR.nat ?_ (fun _=>rfl) (fun v hv => ?_);omega;conv=>whnf)|(refine GetM.ati (by assumption) ?_;conv=>whnf)))
   cases hx.symm.trans hv
   (repeat' (refine CallP.go (hA) ?_;conv=>whnf))
   refine Req.go (by rw[List.length_map];omega) ?_
   (conv=>whnf)
   (repeat' (refine GetM.ati (by assumption) ?_;conv=>whnf))
   refine StR.nat (enc:=eQ) (x+ck) rfl (fun _=>rfl) (by omega) ?_
   (conv=>whnf)
   refine PutM.nat (by rw[List.length_set]) ?_
   rw[←hsu]
   (conv=>whnf)
   (repeat' (refine OpP.add ?_ ?_;omega;conv=>whnf))
   exact AKM.back [] (by (conv=>whnf);exact ⟨rfl,rfl,rfl⟩) (fh (f+1) (by omega) (by omega))
  obtain rfl:f=e:=by omega
  clear fh
  rw[←hfl]
  (repeat' (first|(refine CmpP.go (fun hc => ?_) (fun hc => ?_)<;>first|(exfalso;omega)|(conv=>whnf))|(refine RowP.e1 ?_;conv=>whnf)|(refine AKM.x ?_;conv=>whnf)))
  refine AppR.one (enc:=eQ) ck rfl hbl.symm rfl (by omega) (by omega) ?_
  rw[←hbe,belowQ_len]
  (conv=>whnf)
  (repeat' (refine OpP.add ?_ ?_;omega;conv=>whnf))
  exact AKM.back [(145006,188013),(27,120),(29,73)] (by (conv=>whnf);exact ⟨rfl,rfl,rfl⟩) (kh (k+1) 188013 (by omega) (by omega))
 obtain rfl:k=i:=by omega
 clear kh
 have hbeB:Bs 200000000 (belowQ S.a k k):=by
  intro x hx
  simp only[belowQ,List.mem_cons,List.mem_map,List.mem_range]at hx
  rcases hx with rfl|⟨j,hj,rfl⟩
  ·exact Bt.one _
  ·have hKj:=flK_le j (by omega)
   exact (Ms.fl hsq h.ba hn j (by omega)).2.2.le (by omega)
 have habB:Bs 200000000 (aboveQ S k k):=by
  intro x hx
  simp only[aboveQ,List.mem_cons,List.mem_map,List.mem_range]at hx
  rcases hx with rfl|⟨j,hj,rfl⟩
  ·exact Bt.zero _
  ·have hKj:=flK_le j (by omega)
   have himb:Bs (4*(flK j+65)) (mvQ (flM S.a k j) S.b):=by
    intro x hx
    obtain ⟨r,hr,rfl⟩:=List.mem_map.1 hx
    refine (((Ms.fl hsq h.ba hn j (by omega)).1 r hr).dot h.bb).le ?_
    rw[(Sq.fl hm j).r r hr]
    exact Nat.mul_le_mul hn (by omega)
   refine (h.bc.dot himb).le ?_
   rw[h.lc]
   have:=Nat.mul_le_mul_right (64+4*(flK j+65)+1) hn
   generalize hX:64+4*(flK j+65)+1=X at this ⊢
   omega
 have hbl:=belowQ_len S.a k k
 have hal:=aboveQ_len S k k
 have hmB:Bs 200000064 ((belowQ S.a k k).map (· * S.d)):=by
  intro y hy
  obtain ⟨x,hx,rfl⟩:=List.mem_map.1 hy
  exact ((hbeB x hx).mul h.bd).le (by omega)
 have hml:((belowQ S.a k k).map (· * S.d)).length=k+1:=by rw[List.length_map];exact hbl
 have htl:=trimQ_len ((belowQ S.a k k).map (· * S.d))
 have hct:=cutN_le ((belowQ S.a k k).map (· * S.d)) ((belowQ S.a k k).map (· * S.d)).length
 have hSc:=fun q=>ev_pScale N q (belowQ S.a k k) S.d 200000000 64 hbeB h.bd (by omega) (by omega)
 have hAd:=fun q q'=>ev_pAdd N q q' (aboveQ S k k) (trimQ ((belowQ S.a k k).map (· * S.d))) 200000000 200000064 habB hmB.trim (by omega) (by omega) (by omega)
 have hTr:=fun q=>ev_pTrim N.toPolyGLib q (belowQ S.a k k) 200000000 hbeB (by omega) (by omega)
 have hfin:Clean (.tup [.agg [.sl false ((tfB S k).map eQ),.sl false ((tfA S k).map eQ)],.int .i64 0]):=by
  simp only[Clean,CleanL,true_and,and_true]
  exact ⟨cl_eQs _,cl_eQs _⟩
 unfold tfB tfA at *
 generalize trimQ (addP (aboveQ S k k) (trimQ ((belowQ S.a k k).map (· * S.d))))=rB at *
 generalize trimQ ((belowQ S.a k k).map (· * S.d))=sc at *
 generalize trimQ (belowQ S.a k k)=rA at *
 (repeat' (first|(refine CmpP.go (fun hc => ?_) (fun hc => ?_)<;>first|(exfalso;omega)|(conv=>whnf))|(refine AKM.x ?_;conv=>whnf)))
 refine SnR.all (enc:=eQ) (fun _=>rfl) rfl hbl.symm ?_
 (conv=>whnf)
 (repeat' (refine CallP.go (hSc _) ?_;conv=>whnf))
 refine SnR.all (enc:=eQ) (fun _=>rfl) rfl hal.symm ?_
 (conv=>whnf)
 (repeat' (refine CallP.go (hAd _ _) ?_;conv=>whnf))
 refine SnR.all (enc:=eQ) (fun _=>rfl) rfl hbl.symm ?_
 (conv=>whnf)
 (repeat' (refine CallP.go (hTr _) ?_;conv=>whnf))
 exact FinP.go rfl hfin
end Go.Eng

namespace Go.Eng
open F
attribute [local irreducible] AKM CmpP Req OpP UnP ConvP RdP LdR StR MkR LenP AppR AppN CpyR RowP SnR Bds SlS CallP CalP FinP pw LdM GetM SetM PutM MkM AppM SnM FlP CallR
set_option maxHeartbeats 4000000
variable {L:Lib}
end Go.Eng

namespace Go.Eng
theorem LdM.st {R:List (Option (Nat × List (List AV)))} {i e z:Nat} {es:List (List AV)} {K:Option (Nat × List (List AV))→Prop} (he:e=i) (hi:i<R.length) (h:K (some (z,es))):LdM (R.set i (some (z,es))) e K:=by
 subst he
 exact ⟨_,by rw[List.getElem?_set,if_pos rfl,if_pos hi],h⟩
theorem GetM.st {R:List (Option (Nat × List (List AV)))} {i e z:Nat} {es:List (List AV)} {K:Nat→List (List AV)→Prop} (he:e=i) (hi:i<R.length) (h:K z es):GetM (R.set i (some (z,es))) e K:=by
 subst he
 exact ⟨z,es,by rw[List.getElem?_set,if_pos rfl,if_pos hi],h⟩
theorem PutM.st {R:List (Option (Nat × List (List AV)))} {i e z:Nat} {es es':List (List AV)} {K:List (Option (Nat × List (List AV)))→Prop} (he:e=i) (hl:es'.length=es.length) (h:K (R.set i (some (z,es')))):PutM (R.set i (some (z,es))) e z es es' K:=by
 subst he
 exact ⟨hl,by rw[List.set_set];exact h⟩
theorem SetM.fz {R:List (Option (Nat × List (List AV)))} {i e z:Nat} {es:List (List AV)} {K:List (Option (Nat × List (List AV)))→Prop} (he:e=i) (hi:i<R.length) (h:K (R.set i (some (z,es)))):SetM R e z es K:=by
 subst he
 exact ⟨hi,h⟩
end Go.Eng

namespace Go.Eng
open F
attribute [local irreducible] AKM CmpP Req OpP UnP ConvP RdP LdR StR MkR LenP AppR AppN CpyR RowP SnR Bds SlS CallP CalP FinP pw LdM GetM SetM PutM MkM AppM SnM FlP CallR
set_option maxHeartbeats 16000000
variable {L:Lib}
def mz (Q:List (List Rat)) (n i:Nat):List (Option (Nat × List (List AV))):=fz none (mxR 3 eQ (Q.take i)) n
theorem mz_len {Q:List (List Rat)} {n i:Nat} (hi:i≤n):(mz Q n i).length=n:=by
 refine fz_len ?_
 simp only[mxR,List.length_map,List.length_take];omega
theorem mz_zero (Q:List (List Rat)) (n:Nat):mz Q n 0=List.replicate n none:=by simp [mz,fz]
theorem mz_set {Q:List (List Rat)} {n i:Nat} {row:List Rat} (h:Q[i]? = some row) (hi:i<n):(mz Q n i).set i (some (3,row.map eQ))=mz Q n (i+1):=by
 have h1:=(List.getElem?_eq_some_iff.1 h).1
 have hl:(mxR 3 eQ (Q.take i)).length=i:=by simp only[mxR,List.length_map,List.length_take];omega
 have:=fz_set (z:=none) (l:=mxR 3 eQ (Q.take i)) (m:=n) (x:=some (3,row.map eQ)) (by omega)
 rw[hl]at this
 rw[mz,this,mz,take_snocA h]
 simp [mxR]
theorem mz_full {Q:List (List Rat)} {n:Nat} (h:Q.length=n):mz Q n n=mxR 3 eQ Q:=by
 rw[mz,List.take_of_length_le (by omega)]
 exact fz_full (by simp [mxR,h])
def cz (row:List Rat) (n j:Nat):List Rat:=fz 0 (row.take j) n
theorem cz_len {row:List Rat} {n j:Nat} (hj:j≤n):(cz row n j).length=n:=by
 refine fz_len ?_
 rw[List.length_take];omega
theorem cz_zero (row:List Rat) (n:Nat):cz row n 0=List.replicate n 0:=by simp [cz,fz]
theorem cz_set {row:List Rat} {n j:Nat} {x:Rat} (h:row[j]? = some x) (hj:j<n):(cz row n j).set j x=cz row n (j+1):=by
 have h1:=(List.getElem?_eq_some_iff.1 h).1
 have hl:(row.take j).length=j:=by rw[List.length_take];omega
 have:=fz_set (z:=(0:Rat)) (l:=row.take j) (m:=n) (x:=x) (by omega)
 rw[hl]at this
 rw[cz,this,cz,take_snocA h]
theorem cz_full {row:List Rat} {n:Nat} (h:row.length=n):cz row n n=row:=by
 rw[cz,List.take_of_length_le (by omega)]
 exact fz_full h
end Go.Eng

namespace Go.Eng
def wQ (S:SysQ):Nat→List Rat
 | 0=>S.b
 | j+1=>mvQ S.a (wQ S j)
def conv (A h:Nat→Rat) (K:Nat):Nat→Rat
 | 0=>0
 | a+1=>conv A h K a+A a*h (K-a)
def cfQ (a:List (List Rat)) (n:Nat):Nat→Rat
 | 0=>1
 | k+1=>cofQ a n k
end Go.Eng

namespace Go.Eng
theorem cof_inv (k:Nat) (hk:k≠0) (t:Rat):((k:Nat):Rat)*(t*Rat.divInt (-1) (k:Int)) = -t:=by
 have h:Rat.divInt (-1) (k:Int)=(-1)/((k:Nat):Rat):=by
  rw[Rat.divInt_ofNat,Rat.mkRat_eq_div];rfl
 have h0:((k:Nat):Rat)≠0:=by exact_mod_cast hk
 rw[h]
 grind
theorem len1 {α:Type} {l:List α} (h:l.length=1) : ∃ a,l=[a]:=by
 rcases l with _|⟨a,_|⟨b,l⟩⟩<;>simp at h
 exact ⟨a,rfl⟩
theorem tr1 (x00 m00:Rat):trQ (mulQ [[x00]] [[m00]] 1) 1=0+(x00*m00+0):=rfl
theorem step2 (x00 x01 x10 x11 m00 m01 m10 m11 c:Rat):addD (mulQ [[x00,x01],[x10,x11]] [[m00,m01],[m10,m11]] 2) c 2=[[(x00*m00+(x01*m10+0))+c,x00*m01+(x01*m11+0)],[x10*m00+(x11*m10+0),(x10*m01+(x11*m11+0))+c]]:=rfl
theorem tr2 (x00 x01 x10 x11 m00 m01 m10 m11:Rat):trQ (mulQ [[x00,x01],[x10,x11]] [[m00,m01],[m10,m11]] 2) 2=(0+(x00*m00+(x01*m10+0)))+(x10*m01+(x11*m11+0)):=rfl
theorem step3 (x00 x01 x02 x10 x11 x12 x20 x21 x22 m00 m01 m02 m10 m11 m12 m20 m21 m22 c:Rat):addD (mulQ [[x00,x01,x02],[x10,x11,x12],[x20,x21,x22]] [[m00,m01,m02],[m10,m11,m12],[m20,m21,m22]] 3) c 3=[[(x00*m00+(x01*m10+(x02*m20+0)))+c,x00*m01+(x01*m11+(x02*m21+0)),x00*m02+(x01*m12+(x02*m22+0))],[x10*m00+(x11*m10+(x12*m20+0)),(x10*m01+(x11*m11+(x12*m21+0)))+c,x10*m02+(x11*m12+(x12*m22+0))],[x20*m00+(x21*m10+(x22*m20+0)),x20*m01+(x21*m11+(x22*m21+0)),(x20*m02+(x21*m12+(x22*m22+0)))+c]]:=rfl
theorem tr3 (x00 x01 x02 x10 x11 x12 x20 x21 x22 m00 m01 m02 m10 m11 m12 m20 m21 m22:Rat):trQ (mulQ [[x00,x01,x02],[x10,x11,x12],[x20,x21,x22]] [[m00,m01,m02],[m10,m11,m12],[m20,m21,m22]] 3) 3=((0+(x00*m00+(x01*m10+(x02*m20+0))))+(x10*m01+(x11*m11+(x12*m21+0))))+(x20*m02+(x21*m12+(x22*m22+0))):=rfl
end Go.Eng

namespace Go.Eng
def hQ (S:SysQ):Nat→Rat
 | 0=>S.d
 | j+1=>dotQ S.c (wQ S j)
theorem cut_zero {l:List Rat} : ∀ {n i:Nat},cutN l n≤i→i<n→l.getD i 0=0
 | 0,i,_,h=>by omega
 | n+1,i,h,hi=>by
  rw[cutN]at h
  split at h
  ·rename_i h0
   by_cases e:i=n
   ·subst e;exact h0
   ·exact cut_zero h (by omega)
  ·omega
theorem trimQ_getD (l:List Rat) (i:Nat):(trimQ l).getD i 0=l.getD i 0:=by
 by_cases h:i<cutN l l.length
 ·have:=cutN_le l l.length
  rw[trimQ,List.getD_eq_getElem?_getD,List.getElem?_take_of_lt h,List.getD_eq_getElem?_getD]
 ·rw[gD_ge (by rw[trimQ_len];omega)]
  by_cases h2:i<l.length
  ·exact (cut_zero (by omega) h2).symm
  ·exact (gD_ge (by omega)).symm
theorem below_getD (a:List (List Rat)) (n i:Nat) (h:i≤n):(belowQ a n n).getD i 0=cfQ a n i:=by
 cases i with
 | zero=>rfl
 | succ i =>
  rw[belowQ,List.getD_cons_succ,List.getD_eq_getElem?_getD,List.getElem?_map,List.getElem?_range (by omega)]
  rfl
theorem addP_getD (p r:List Rat) (h:r.length≤p.length) (i:Nat):(addP p r).getD i 0=p.getD i 0+r.getD i 0:=by
 by_cases hi:i<p.length
 ·exact gD_of (addP_at hi)
 ·rw[gD_ge (by rw[addP_len];omega),gD_ge (by omega),gD_ge (by omega),Rat.add_zero]
theorem smap_getD (l:List Rat) (d:Rat) (i:Nat):(l.map (· * d)).getD i 0=l.getD i 0*d:=by
 rw[List.getD_eq_getElem?_getD,List.getD_eq_getElem?_getD,List.getElem?_map]
 cases l[i]? with
 | none=>simp
 | some x=>rfl
end Go.Eng

namespace Go.Eng
theorem trimQ_last {r:List Rat} (h:trimQ r=r) (hn:r.length≠0):r.getD (r.length-1) 0≠0:=by
 have hl:=trimQ_len r
 rw[h]at hl
 obtain ⟨n,hn'⟩ : ∃ n,r.length=n+1:=⟨r.length-1,by omega⟩
 rw[hn',cutN]at hl
 rw[hn',Nat.add_sub_cancel]
 intro h0
 rw[if_pos h0]at hl
 have:=cutN_le r n
 omega
theorem trimQ_eq {l r:List Rat} (hr:trimQ r=r) (h : ∀ i,l.getD i 0=r.getD i 0):trimQ l=r:=by
 have ht:=trimQ_idem l
 have hg : ∀ i,(trimQ l).getD i 0=r.getD i 0:=fun i=>by rw[trimQ_getD,h]
 generalize trimQ l=t at *
 have hle:t.length=r.length:=by
  by_cases h1:t.length<r.length
  ·exact absurd (by rw[←hg];exact gD_ge (by omega)) (trimQ_last hr (by omega))
  ·by_cases h2:r.length<t.length
   ·exact absurd (by rw[hg];exact gD_ge (by omega)) (trimQ_last ht (by omega))
   ·omega
 refine List.ext_getElem? fun i => ?_
 by_cases hi:i<t.length
 ·have e1:t[i]? = some t[i]:=List.getElem?_eq_getElem hi
  have e2:r[i]? = some (r[i]'(by omega)):=List.getElem?_eq_getElem (by omega)
  have:=hg i
  rw[gD_of e1,gD_of e2]at this
  rw[e1,e2,this]
 ·rw[List.getElem?_eq_none (by omega),List.getElem?_eq_none (by omega)]
def ctlQ (B A:List Rat) (n:Nat):SysQ where
 a:=(List.range n).map fun i=>if i=0 then (List.range n).map fun k => -(A.getD (k+1) 0) else unitL n ((i-1:Nat):Int)
 b:=unitL n 0
 c:=(List.range n).map fun i=>B.getD (i+1) 0-B.getD 0 0*A.getD (i+1) 0
 d:=B.getD 0 0
def obsQ (B A:List Rat) (n:Nat):SysQ where
 a:=(List.range n).map fun i=>colQ (ctlQ B A n).a i
 b:=(ctlQ B A n).c
 c:=(ctlQ B A n).b
 d:=(ctlQ B A n).d
theorem comp1 (p:Rat):flM [[-p]] 1 0=[[1]]∧cofQ [[-p]] 1 0=p:=by
 have g0:flM [[-p]] 1 0=[[1]]:=rfl
 have k0:=cof_inv 1 (by omega) (trQ (mulQ [[-p]] (flM [[-p]] 1 0) 1) 1)
 rw[show trQ (mulQ [[-p]] (flM [[-p]] 1 0) 1) 1*Rat.divInt (-1) ((1:Nat):Int)=cofQ [[-p]] 1 0 from rfl,g0,tr1]at k0
 have e0:cofQ [[-p]] 1 0=p:=by grind
 exact ⟨g0,e0⟩
theorem comp2 (p q:Rat):flM [[-p,-q],[1,0]] 2 0=[[1,0],[0,1]]∧flM [[-p,-q],[1,0]] 2 1=[[0,-q],[1,p]]∧cofQ [[-p,-q],[1,0]] 2 0=p∧cofQ [[-p,-q],[1,0]] 2 1=q:=by
 have g0:flM [[-p,-q],[1,0]] 2 0=[[1,0],[0,1]]:=rfl
 have k0:=cof_inv 1 (by omega) (trQ (mulQ [[-p,-q],[1,0]] (flM [[-p,-q],[1,0]] 2 0) 2) 2)
 rw[show trQ (mulQ [[-p,-q],[1,0]] (flM [[-p,-q],[1,0]] 2 0) 2) 2*Rat.divInt (-1) ((1:Nat):Int)=cofQ [[-p,-q],[1,0]] 2 0 from rfl,g0,tr2]at k0
 have e0:cofQ [[-p,-q],[1,0]] 2 0=p:=by grind
 have g1:flM [[-p,-q],[1,0]] 2 1=[[0,-q],[1,p]]:=by
  have h:flM [[-p,-q],[1,0]] 2 1=addD (mulQ [[-p,-q],[1,0]] (flM [[-p,-q],[1,0]] 2 0) 2) (cofQ [[-p,-q],[1,0]] 2 0) 2:=rfl
  rw[g0,e0,step2]at h
  rw[h]
  clear h
  simp only[List.cons.injEq,and_true]
  refine ⟨⟨?_,?_⟩,⟨?_,?_⟩⟩<;>grind
 have k1:=cof_inv 2 (by omega) (trQ (mulQ [[-p,-q],[1,0]] (flM [[-p,-q],[1,0]] 2 1) 2) 2)
 rw[show trQ (mulQ [[-p,-q],[1,0]] (flM [[-p,-q],[1,0]] 2 1) 2) 2*Rat.divInt (-1) ((2:Nat):Int)=cofQ [[-p,-q],[1,0]] 2 1 from rfl,g1,tr2]at k1
 have e1:cofQ [[-p,-q],[1,0]] 2 1=q:=by grind
 exact ⟨g0,g1,e0,e1⟩
theorem obs2 (p q:Rat):flM [[-p,1],[-q,0]] 2 0=[[1,0],[0,1]]∧flM [[-p,1],[-q,0]] 2 1=[[0,1],[-q,p]]∧cofQ [[-p,1],[-q,0]] 2 0=p∧cofQ [[-p,1],[-q,0]] 2 1=q:=by
 have g0:flM [[-p,1],[-q,0]] 2 0=[[1,0],[0,1]]:=rfl
 have k0:=cof_inv 1 (by omega) (trQ (mulQ [[-p,1],[-q,0]] (flM [[-p,1],[-q,0]] 2 0) 2) 2)
 rw[show trQ (mulQ [[-p,1],[-q,0]] (flM [[-p,1],[-q,0]] 2 0) 2) 2*Rat.divInt (-1) ((1:Nat):Int)=cofQ [[-p,1],[-q,0]] 2 0 from rfl,g0,tr2]at k0
 have e0:cofQ [[-p,1],[-q,0]] 2 0=p:=by grind
 have g1:flM [[-p,1],[-q,0]] 2 1=[[0,1],[-q,p]]:=by
  have h:flM [[-p,1],[-q,0]] 2 1=addD (mulQ [[-p,1],[-q,0]] (flM [[-p,1],[-q,0]] 2 0) 2) (cofQ [[-p,1],[-q,0]] 2 0) 2:=rfl
  rw[g0,e0,step2]at h
  rw[h]
  clear h
  simp only[List.cons.injEq,and_true]
  refine ⟨⟨?_,?_⟩,⟨?_,?_⟩⟩<;>grind
 have k1:=cof_inv 2 (by omega) (trQ (mulQ [[-p,1],[-q,0]] (flM [[-p,1],[-q,0]] 2 1) 2) 2)
 rw[show trQ (mulQ [[-p,1],[-q,0]] (flM [[-p,1],[-q,0]] 2 1) 2) 2*Rat.divInt (-1) ((2:Nat):Int)=cofQ [[-p,1],[-q,0]] 2 1 from rfl,g1,tr2]at k1
 have e1:cofQ [[-p,1],[-q,0]] 2 1=q:=by grind
 exact ⟨g0,g1,e0,e1⟩
theorem comp3 (p q r:Rat):flM [[-p,-q,-r],[1,0,0],[0,1,0]] 3 0=[[1,0,0],[0,1,0],[0,0,1]]∧flM [[-p,-q,-r],[1,0,0],[0,1,0]] 3 1=[[0,-q,-r],[1,p,0],[0,1,p]]∧flM [[-p,-q,-r],[1,0,0],[0,1,0]] 3 2=[[0,-r,0],[0,0,-r],[1,p,q]]∧cofQ [[-p,-q,-r],[1,0,0],[0,1,0]] 3 0=p∧cofQ [[-p,-q,-r],[1,0,0],[0,1,0]] 3 1=q∧cofQ [[-p,-q,-r],[1,0,0],[0,1,0]] 3 2=r:=by
 have g0:flM [[-p,-q,-r],[1,0,0],[0,1,0]] 3 0=[[1,0,0],[0,1,0],[0,0,1]]:=rfl
 have k0:=cof_inv 1 (by omega) (trQ (mulQ [[-p,-q,-r],[1,0,0],[0,1,0]] (flM [[-p,-q,-r],[1,0,0],[0,1,0]] 3 0) 3) 3)
 rw[show trQ (mulQ [[-p,-q,-r],[1,0,0],[0,1,0]] (flM [[-p,-q,-r],[1,0,0],[0,1,0]] 3 0) 3) 3*Rat.divInt (-1) ((1:Nat):Int)=cofQ [[-p,-q,-r],[1,0,0],[0,1,0]] 3 0 from rfl,g0,tr3]at k0
 have e0:cofQ [[-p,-q,-r],[1,0,0],[0,1,0]] 3 0=p:=by grind
 have g1:flM [[-p,-q,-r],[1,0,0],[0,1,0]] 3 1=[[0,-q,-r],[1,p,0],[0,1,p]]:=by
  have h:flM [[-p,-q,-r],[1,0,0],[0,1,0]] 3 1=addD (mulQ [[-p,-q,-r],[1,0,0],[0,1,0]] (flM [[-p,-q,-r],[1,0,0],[0,1,0]] 3 0) 3) (cofQ [[-p,-q,-r],[1,0,0],[0,1,0]] 3 0) 3:=rfl
  rw[g0,e0,step3]at h
  rw[h]
  clear h
  simp only[List.cons.injEq,and_true]
  refine ⟨⟨?_,?_,?_⟩,⟨?_,?_,?_⟩,⟨?_,?_,?_⟩⟩<;>grind
 have k1:=cof_inv 2 (by omega) (trQ (mulQ [[-p,-q,-r],[1,0,0],[0,1,0]] (flM [[-p,-q,-r],[1,0,0],[0,1,0]] 3 1) 3) 3)
 rw[show trQ (mulQ [[-p,-q,-r],[1,0,0],[0,1,0]] (flM [[-p,-q,-r],[1,0,0],[0,1,0]] 3 1) 3) 3*Rat.divInt (-1) ((2:Nat):Int)=cofQ [[-p,-q,-r],[1,0,0],[0,1,0]] 3 1 from rfl,g1,tr3]at k1
 have e1:cofQ [[-p,-q,-r],[1,0,0],[0,1,0]] 3 1=q:=by grind
 have g2:flM [[-p,-q,-r],[1,0,0],[0,1,0]] 3 2=[[0,-r,0],[0,0,-r],[1,p,q]]:=by
  have h:flM [[-p,-q,-r],[1,0,0],[0,1,0]] 3 2=addD (mulQ [[-p,-q,-r],[1,0,0],[0,1,0]] (flM [[-p,-q,-r],[1,0,0],[0,1,0]] 3 1) 3) (cofQ [[-p,-q,-r],[1,0,0],[0,1,0]] 3 1) 3:=rfl
  rw[g1,e1,step3]at h
  rw[h]
  clear h
  simp only[List.cons.injEq,and_true]
  refine ⟨⟨?_,?_,?_⟩,⟨?_,?_,?_⟩,⟨?_,?_,?_⟩⟩<;>grind
 have k2:=cof_inv 3 (by omega) (trQ (mulQ [[-p,-q,-r],[1,0,0],[0,1,0]] (flM [[-p,-q,-r],[1,0,0],[0,1,0]] 3 2) 3) 3)
 rw[show trQ (mulQ [[-p,-q,-r],[1,0,0],[0,1,0]] (flM [[-p,-q,-r],[1,0,0],[0,1,0]] 3 2) 3) 3*Rat.divInt (-1) ((3:Nat):Int)=cofQ [[-p,-q,-r],[1,0,0],[0,1,0]] 3 2 from rfl,g2,tr3]at k2
 have e2:cofQ [[-p,-q,-r],[1,0,0],[0,1,0]] 3 2=r:=by grind
 exact ⟨g0,g1,g2,e0,e1,e2⟩
theorem obs3 (p q r:Rat):flM [[-p,1,0],[-q,0,1],[-r,0,0]] 3 0=[[1,0,0],[0,1,0],[0,0,1]]∧flM [[-p,1,0],[-q,0,1],[-r,0,0]] 3 1=[[0,1,0],[-q,p,1],[-r,0,p]]∧flM [[-p,1,0],[-q,0,1],[-r,0,0]] 3 2=[[0,0,1],[-r,0,p],[0,-r,q]]∧cofQ [[-p,1,0],[-q,0,1],[-r,0,0]] 3 0=p∧cofQ [[-p,1,0],[-q,0,1],[-r,0,0]] 3 1=q∧cofQ [[-p,1,0],[-q,0,1],[-r,0,0]] 3 2=r:=by
 have g0:flM [[-p,1,0],[-q,0,1],[-r,0,0]] 3 0=[[1,0,0],[0,1,0],[0,0,1]]:=rfl
 have k0:=cof_inv 1 (by omega) (trQ (mulQ [[-p,1,0],[-q,0,1],[-r,0,0]] (flM [[-p,1,0],[-q,0,1],[-r,0,0]] 3 0) 3) 3)
 rw[show trQ (mulQ [[-p,1,0],[-q,0,1],[-r,0,0]] (flM [[-p,1,0],[-q,0,1],[-r,0,0]] 3 0) 3) 3*Rat.divInt (-1) ((1:Nat):Int)=cofQ [[-p,1,0],[-q,0,1],[-r,0,0]] 3 0 from rfl,g0,tr3]at k0
 have e0:cofQ [[-p,1,0],[-q,0,1],[-r,0,0]] 3 0=p:=by grind
 have g1:flM [[-p,1,0],[-q,0,1],[-r,0,0]] 3 1=[[0,1,0],[-q,p,1],[-r,0,p]]:=by
  have h:flM [[-p,1,0],[-q,0,1],[-r,0,0]] 3 1=addD (mulQ [[-p,1,0],[-q,0,1],[-r,0,0]] (flM [[-p,1,0],[-q,0,1],[-r,0,0]] 3 0) 3) (cofQ [[-p,1,0],[-q,0,1],[-r,0,0]] 3 0) 3:=rfl
  rw[g0,e0,step3]at h
  rw[h]
  clear h
  simp only[List.cons.injEq,and_true]
  refine ⟨⟨?_,?_,?_⟩,⟨?_,?_,?_⟩,⟨?_,?_,?_⟩⟩<;>grind
 have k1:=cof_inv 2 (by omega) (trQ (mulQ [[-p,1,0],[-q,0,1],[-r,0,0]] (flM [[-p,1,0],[-q,0,1],[-r,0,0]] 3 1) 3) 3)
 rw[show trQ (mulQ [[-p,1,0],[-q,0,1],[-r,0,0]] (flM [[-p,1,0],[-q,0,1],[-r,0,0]] 3 1) 3) 3*Rat.divInt (-1) ((2:Nat):Int)=cofQ [[-p,1,0],[-q,0,1],[-r,0,0]] 3 1 from rfl,g1,tr3]at k1
 have e1:cofQ [[-p,1,0],[-q,0,1],[-r,0,0]] 3 1=q:=by grind
 have g2:flM [[-p,1,0],[-q,0,1],[-r,0,0]] 3 2=[[0,0,1],[-r,0,p],[0,-r,q]]:=by
  have h:flM [[-p,1,0],[-q,0,1],[-r,0,0]] 3 2=addD (mulQ [[-p,1,0],[-q,0,1],[-r,0,0]] (flM [[-p,1,0],[-q,0,1],[-r,0,0]] 3 1) 3) (cofQ [[-p,1,0],[-q,0,1],[-r,0,0]] 3 1) 3:=rfl
  rw[g1,e1,step3]at h
  rw[h]
  clear h
  simp only[List.cons.injEq,and_true]
  refine ⟨⟨?_,?_,?_⟩,⟨?_,?_,?_⟩,⟨?_,?_,?_⟩⟩<;>grind
 have k2:=cof_inv 3 (by omega) (trQ (mulQ [[-p,1,0],[-q,0,1],[-r,0,0]] (flM [[-p,1,0],[-q,0,1],[-r,0,0]] 3 2) 3) 3)
 rw[show trQ (mulQ [[-p,1,0],[-q,0,1],[-r,0,0]] (flM [[-p,1,0],[-q,0,1],[-r,0,0]] 3 2) 3) 3*Rat.divInt (-1) ((3:Nat):Int)=cofQ [[-p,1,0],[-q,0,1],[-r,0,0]] 3 2 from rfl,g2,tr3]at k2
 have e2:cofQ [[-p,1,0],[-q,0,1],[-r,0,0]] 3 2=r:=by grind
 exact ⟨g0,g1,g2,e0,e1,e2⟩
theorem tf_of {S:SysQ} {n:Nat} {B A:List Rat} (hA:trimQ A=A) (hB:trimQ B=B) (lA:A.length≤n+1) (lB:B.length≤n+1) (h0:A.getD 0 0=1) (hd:S.d=B.getD 0 0)
  (h1 : ∀ k,k<n→cofQ S.a n k=A.getD (k+1) 0) (h2 : ∀ k,k<n→dotQ S.c (mvQ (flM S.a n k) S.b)=B.getD (k+1) 0-B.getD 0 0*A.getD (k+1) 0):tfA S n=A∧tfB S n=B:=by
 have hb : ∀ i,(belowQ S.a n n).getD i 0=A.getD i 0:=fun i=>by
  by_cases hi:i≤n
  ·rw[below_getD _ _ _ hi]
   cases i with
   | zero=>exact h0.symm
   | succ i=>exact h1 i (by omega)
  ·rw[gD_ge (by rw[belowQ_len];omega),gD_ge (by omega)]
 have ha : ∀ i,(aboveQ S n n).getD i 0=B.getD i 0-B.getD 0 0*A.getD i 0:=fun i=>by
  cases i with
  | zero =>
   rw[h0]
   show (0:Rat)=_
   grind
  | succ i =>
   by_cases hi:i<n
   ·rw[aboveQ,List.getD_cons_succ,List.getD_eq_getElem?_getD,List.getElem?_map,List.getElem?_range hi]
    exact h2 i hi
   ·rw[gD_ge (by rw[aboveQ_len];omega),gD_ge (l:=B) (i:=i+1) (by omega),gD_ge (l:=A) (by omega)]
    grind
 have hle:(trimQ ((belowQ S.a n n).map (· * S.d))).length≤(aboveQ S n n).length:=by
  rw[trimQ_len,aboveQ_len]
  have:=cutN_le ((belowQ S.a n n).map (· * S.d)) ((belowQ S.a n n).map (· * S.d)).length
  have:=belowQ_len S.a n n
  rw[List.length_map]at *
  omega
 refine ⟨trimQ_eq hA hb,trimQ_eq hB fun i => ?_⟩
 rw[addP_getD _ _ hle,trimQ_getD,smap_getD,ha,hb,hd]
 grind
theorem ctl_tf {B A:List Rat} {n:Nat} (hA:trimQ A=A) (hB:trimQ B=B) (lA:A.length≤n+1) (lB:B.length≤n+1) (h0:A.getD 0 0=1) (hn:n≤3):tfA (ctlQ B A n) n=A∧tfB (ctlQ B A n) n=B:=by
 rcases n with _|_|_|_|n
 ·exact tf_of hA hB lA lB h0 rfl (fun k hk=>absurd hk (by omega)) (fun k hk=>absurd hk (by omega))
 ·obtain ⟨m0,c0⟩:=comp1 (A.getD 1 0)
  refine tf_of hA hB lA lB h0 rfl (fun k hk => ?_) (fun k hk => ?_)
  ·have hk':k=0:=by omega
   subst hk'
   exact c0
  ·have hk':k=0:=by omega
   subst hk'
   show dotQ [B.getD 1 0-B.getD 0 0*A.getD 1 0] (mvQ (flM [[-(A.getD 1 0)]] 1 0) [1])=_
   rw[m0]
   simp only[mvQ,List.map_cons,List.map_nil,dotQ]
   grind
 ·obtain ⟨m0,m1,c0,c1⟩:=comp2 (A.getD 1 0) (A.getD 2 0)
  refine tf_of hA hB lA lB h0 rfl (fun k hk => ?_) (fun k hk => ?_)
  ·have hk':k=0∨k=1:=by omega
   rcases hk' with rfl|rfl
   ·exact c0
   ·exact c1
  ·have hk':k=0∨k=1:=by omega
   rcases hk' with rfl|rfl
   ·show dotQ [B.getD 1 0-B.getD 0 0*A.getD 1 0,B.getD 2 0-B.getD 0 0*A.getD 2 0] (mvQ (flM [[-(A.getD 1 0),-(A.getD 2 0)],[1,0]] 2 0) [1,0])=_
    rw[m0]
    simp only[mvQ,List.map_cons,List.map_nil,dotQ]
    grind
   ·show dotQ [B.getD 1 0-B.getD 0 0*A.getD 1 0,B.getD 2 0-B.getD 0 0*A.getD 2 0] (mvQ (flM [[-(A.getD 1 0),-(A.getD 2 0)],[1,0]] 2 1) [1,0])=_
    rw[m1]
    simp only[mvQ,List.map_cons,List.map_nil,dotQ]
    grind
 ·obtain ⟨m0,m1,m2,c0,c1,c2⟩:=comp3 (A.getD 1 0) (A.getD 2 0) (A.getD 3 0)
  refine tf_of hA hB lA lB h0 rfl (fun k hk => ?_) (fun k hk => ?_)
  ·have hk':k=0∨k=1∨k=2:=by omega
   rcases hk' with rfl|rfl|rfl
   ·exact c0
   ·exact c1
   ·exact c2
  ·have hk':k=0∨k=1∨k=2:=by omega
   rcases hk' with rfl|rfl|rfl
   ·show dotQ [B.getD 1 0-B.getD 0 0*A.getD 1 0,B.getD 2 0-B.getD 0 0*A.getD 2 0,B.getD 3 0-B.getD 0 0*A.getD 3 0] (mvQ (flM [[-(A.getD 1 0),-(A.getD 2 0),-(A.getD 3 0)],[1,0,0],[0,1,0]] 3 0) [1,0,0])=_
    rw[m0]
    simp only[mvQ,List.map_cons,List.map_nil,dotQ]
    grind
   ·show dotQ [B.getD 1 0-B.getD 0 0*A.getD 1 0,B.getD 2 0-B.getD 0 0*A.getD 2 0,B.getD 3 0-B.getD 0 0*A.getD 3 0] (mvQ (flM [[-(A.getD 1 0),-(A.getD 2 0),-(A.getD 3 0)],[1,0,0],[0,1,0]] 3 1) [1,0,0])=_
    rw[m1]
    simp only[mvQ,List.map_cons,List.map_nil,dotQ]
    grind
   ·show dotQ [B.getD 1 0-B.getD 0 0*A.getD 1 0,B.getD 2 0-B.getD 0 0*A.getD 2 0,B.getD 3 0-B.getD 0 0*A.getD 3 0] (mvQ (flM [[-(A.getD 1 0),-(A.getD 2 0),-(A.getD 3 0)],[1,0,0],[0,1,0]] 3 2) [1,0,0])=_
    rw[m2]
    simp only[mvQ,List.map_cons,List.map_nil,dotQ]
    grind
 ·omega
theorem obs_tf {B A:List Rat} {n:Nat} (hA:trimQ A=A) (hB:trimQ B=B) (lA:A.length≤n+1) (lB:B.length≤n+1) (h0:A.getD 0 0=1) (hn:n≤3):tfA (obsQ B A n) n=A∧tfB (obsQ B A n) n=B:=by
 rcases n with _|_|_|_|n
 ·exact tf_of hA hB lA lB h0 rfl (fun k hk=>absurd hk (by omega)) (fun k hk=>absurd hk (by omega))
 ·obtain ⟨m0,c0⟩:=comp1 (A.getD 1 0)
  refine tf_of hA hB lA lB h0 rfl (fun k hk => ?_) (fun k hk => ?_)
  ·have hk':k=0:=by omega
   subst hk'
   exact c0
  ·have hk':k=0:=by omega
   subst hk'
   show dotQ [1] (mvQ (flM [[-(A.getD 1 0)]] 1 0) [B.getD 1 0-B.getD 0 0*A.getD 1 0])=_
   rw[m0]
   simp only[mvQ,List.map_cons,List.map_nil,dotQ]
   grind
 ·obtain ⟨m0,m1,c0,c1⟩:=obs2 (A.getD 1 0) (A.getD 2 0)
  refine tf_of hA hB lA lB h0 rfl (fun k hk => ?_) (fun k hk => ?_)
  ·have hk':k=0∨k=1:=by omega
   rcases hk' with rfl|rfl
   ·exact c0
   ·exact c1
  ·have hk':k=0∨k=1:=by omega
   rcases hk' with rfl|rfl
   ·show dotQ [1,0] (mvQ (flM [[-(A.getD 1 0),1],[-(A.getD 2 0),0]] 2 0) [B.getD 1 0-B.getD 0 0*A.getD 1 0,B.getD 2 0-B.getD 0 0*A.getD 2 0])=_
    rw[m0]
    simp only[mvQ,List.map_cons,List.map_nil,dotQ]
    grind
   ·show dotQ [1,0] (mvQ (flM [[-(A.getD 1 0),1],[-(A.getD 2 0),0]] 2 1) [B.getD 1 0-B.getD 0 0*A.getD 1 0,B.getD 2 0-B.getD 0 0*A.getD 2 0])=_
    rw[m1]
    simp only[mvQ,List.map_cons,List.map_nil,dotQ]
    grind
 ·obtain ⟨m0,m1,m2,c0,c1,c2⟩:=obs3 (A.getD 1 0) (A.getD 2 0) (A.getD 3 0)
  refine tf_of hA hB lA lB h0 rfl (fun k hk => ?_) (fun k hk => ?_)
  ·have hk':k=0∨k=1∨k=2:=by omega
   rcases hk' with rfl|rfl|rfl
   ·exact c0
   ·exact c1
   ·exact c2
  ·have hk':k=0∨k=1∨k=2:=by omega
   rcases hk' with rfl|rfl|rfl
   ·show dotQ [1,0,0] (mvQ (flM [[-(A.getD 1 0),1,0],[-(A.getD 2 0),0,1],[-(A.getD 3 0),0,0]] 3 0) [B.getD 1 0-B.getD 0 0*A.getD 1 0,B.getD 2 0-B.getD 0 0*A.getD 2 0,B.getD 3 0-B.getD 0 0*A.getD 3 0])=_
    rw[m0]
    simp only[mvQ,List.map_cons,List.map_nil,dotQ]
    grind
   ·show dotQ [1,0,0] (mvQ (flM [[-(A.getD 1 0),1,0],[-(A.getD 2 0),0,1],[-(A.getD 3 0),0,0]] 3 1) [B.getD 1 0-B.getD 0 0*A.getD 1 0,B.getD 2 0-B.getD 0 0*A.getD 2 0,B.getD 3 0-B.getD 0 0*A.getD 3 0])=_
    rw[m1]
    simp only[mvQ,List.map_cons,List.map_nil,dotQ]
    grind
   ·show dotQ [1,0,0] (mvQ (flM [[-(A.getD 1 0),1,0],[-(A.getD 2 0),0,1],[-(A.getD 3 0),0,0]] 3 2) [B.getD 1 0-B.getD 0 0*A.getD 1 0,B.getD 2 0-B.getD 0 0*A.getD 2 0,B.getD 3 0-B.getD 0 0*A.getD 3 0])=_
    rw[m2]
    simp only[mvQ,List.map_cons,List.map_nil,dotQ]
    grind
 ·omega
end Go.Eng

namespace Go.Eng
open F
attribute [local irreducible] AKM CmpP Req OpP UnP ConvP RdP LdR StR MkR LenP AppR AppN CpyR RowP SnR Bds SlS CallP CalP FinP pw LdM GetM SetM PutM MkM AppM SnM FlP CallR
set_option maxHeartbeats 16000000
variable {L:Lib}
theorem ev_sZeros (N:StGLib L) (m:Nat) (hm:m≤65536):EvR L 206 [.int .i64 (m:Int)] 3 ((List.replicate m (0:Rat)).map eQ):=by
 have hO:=ev_rational_Of N.toRatGLib 0 (by omega)
 refine EvR.x N.statespace_zeros rfl rfl ?_
 (repeat' (refine AKM.x ?_;conv=>whnf))
 refine MkR.go (enc:=eO) none m rfl rfl (by omega) ?_
 (conv=>whnf)
 skip
 refine AKM.loop1 (fun i=>m-i) (fun (i:Nat)=>i≤m) (fun i=>[(8,.int .i64 i)]) (fun i=>[(6,6,.rw 3 ((fillO (List.replicate i 0) m).map eO))]) [] [] 0 (by first|exact (by (conv=>whnf);exact ⟨rfl,rfl,rfl⟩)|(rw[←fillO_nil];exact (by (conv=>whnf);exact ⟨rfl,rfl,rfl⟩))) (by omega) ?_
 intro i p1 ih
 by_cases hi:i<m
 ·have hl:=fillO_len (l:=List.replicate i (0:Rat)) (m:=m) (by simp;omega)
  have hs:=fillO_set (l:=List.replicate i (0:Rat)) (m:=m) (x:=0) (by simp;omega)
  rw[List.length_replicate]at hs
  (repeat' (first|(refine CmpP.go (fun hc => ?_) (fun hc => ?_)<;>first|(exfalso;omega)|(conv=>whnf))|(refine Req.go ?_ ?_;omega;conv=>whnf)|(refine AKM.x ?_;conv=>whnf)|(refine CallP.go (hO) ?_;conv=>whnf)))
  refine StR.nat (enc:=eO) (some 0) rfl (fun e=>by cases e<;>rfl) (by omega) ?_
  (conv=>whnf)
  (repeat' (refine OpP.add ?_ ?_;omega;conv=>whnf))
  rw[hs]
  rw[show List.replicate i (0:Rat)++[0]=List.replicate (i+1) 0 by rw[List.replicate_succ']]
  exact AKM.back [] (by (conv=>whnf);exact ⟨rfl,rfl,rfl⟩) (ih (i+1) (by omega) (by omega))
 obtain rfl:i=m:=by omega
 clear ih
 rw[fillO_full (by simp)]
 (repeat' (first|(refine CmpP.go (fun hc => ?_) (fun hc => ?_)<;>first|(exfalso;omega)|(conv=>whnf))|(refine AKM.x ?_;conv=>whnf)))
 exact ⟨rfl,rfl,by simp,rfl,cl_eQs _⟩
theorem ev_sAt (N:StGLib L) (q:Bool) (l:List Rat) (i:Int) (k:Nat) (h0:0≤i) (hl:Bs k l) (hk:k<2199023255552) (hn:l.length≤1000000):Ev L 205 [.sl q (l.map eQ),.int .i64 i] (.agg (eQ (l.getD i.toNat 0))):=by
 have hO:=ev_rational_Of N.toRatGLib 0 (by omega)
 refine Ev.x N.statespace_at rfl rfl ?_
 by_cases hi:i<l.length
 ·obtain ⟨x,hx⟩ : ∃ x,l[i.toNat]? = some x:=⟨_,List.getElem?_eq_getElem (by omega)⟩
  have hT:=ev_trimQ N.toRatGLib (hl.at hx) hk
  rw[gD_of hx]
  (repeat' (first|(refine CmpP.go (fun hc => ?_) (fun hc => ?_)<;>first|(exfalso;omega)|(conv=>whnf))|(refine LenP.go ?_;conv=>whnf)|(refine RdP.at (by assumption) ?_ rfl ?_;omega;conv=>whnf)|(refine AKM.x ?_;conv=>whnf)|(refine CallP.go (hT) ?_;conv=>whnf)))
  exact FinP.go rfl (cl_eQ _)
 ·rw[gD_ge (l:=l) (by omega)]
  (repeat' (first|(refine CmpP.go (fun hc => ?_) (fun hc => ?_)<;>first|(exfalso;omega)|(conv=>whnf))|(refine LenP.go ?_;conv=>whnf)|(refine AKM.x ?_;conv=>whnf)|(refine CallP.go (hO) ?_;conv=>whnf)))
  exact FinP.go rfl (cl_eQ _)
theorem ev_sDegree (N:StGLib L) (q:Bool) (l:List Rat) (k:Nat) (ht:trimQ l=l) (hl:Bs k l) (hk:k<2199023255552) (hn:l.length≤1000000):Ev L 204 [.sl q (l.map eQ)] (.int .i64 ((l.length-1:Nat):Int)):=by
 refine Ev.x N.statespace_degree rfl rfl ?_
 (repeat' (first|(refine OpP.sub ?_ ?_;omega;conv=>whnf)|(refine LenP.go ?_;conv=>whnf)|(refine AKM.x ?_;conv=>whnf)))
 refine AKM.lp ?_
 by_cases h2:l.length≤1
 ·(repeat' (first|(refine CmpP.go (fun hc => ?_) (fun hc => ?_)<;>first|(exfalso;omega)|(conv=>whnf))|(refine AKM.x ?_;conv=>whnf)))
  exact FinP.i (by omega)
 ·obtain ⟨x,hx⟩ : ∃ x,l[l.length-1]? = some x:=⟨_,List.getElem?_eq_getElem (by omega)⟩
  have hx':l[((l.length:Int)-1).toNat]? = some x:=by rw[show ((l.length:Int)-1).toNat=l.length-1 by omega];exact hx
  have hxn:=trimQ_last ht (by omega)
  rw[gD_of hx]at hxn
  have hS:=ev_signQ N.toRatGLib (hl.at hx) hk
  have hs:=sgn_num (x:=x)
  generalize sgn x.num=s at *
  have hs0:s≠0:=fun h=>hxn (hs.1 h)
  (repeat' (first|(refine CmpP.go (fun hc => ?_) (fun hc => ?_)<;>first|(exfalso;omega)|(conv=>whnf))|(refine RdP.at (by assumption) ?_ rfl ?_;omega;conv=>whnf)|(refine AKM.x ?_;conv=>whnf)|(refine CallP.go (hS) ?_;conv=>whnf)))
  exact FinP.i (by omega)
theorem ev_rValid (N:StGLib L) (q1 q2:Bool) (B A:List Rat) (k:Nat) (hB:Bs k B) (hA:Bs k A) (hk:k<2199023255552) (lB:B.length≤49) (lA:A.length≤49) (h0:A[0]? = some 1):Ev L 201 [.agg [.sl q1 (B.map eQ),.sl q2 (A.map eQ)]] (.bool true):=by
 have c1:=cutN_le B B.length
 have c2:=cutN_le A A.length
 have hD1:=ev_pDegree N q1 B k hB hk (by omega)
 have hD2:=ev_pDegree N q2 A k hA hk (by omega)
 have hO:=ev_rational_Of N.toRatGLib 1 (by omega)
 have hC:=ev_cmpQ N (Bt.one 1) (Bt.one 1) (by omega) (by omega)
 rw[sgn_sub.2 rfl]at hC
 have hAl:0<A.length:=(List.getElem?_eq_some_iff.1 h0).1
 have h0':A[(0:Int).toNat]? = some 1:=h0
 generalize cutN B B.length=d1 at *
 generalize cutN A A.length=d2 at *
 refine Ev.x N.response_Valid rfl rfl ?_
 (repeat' (first|(refine CmpP.go (fun hc => ?_) (fun hc => ?_)<;>first|(exfalso;omega)|(conv=>whnf))|(refine LenP.go ?_;conv=>whnf)|(refine RdP.at (by assumption) ?_ rfl ?_;omega;conv=>whnf)|(refine AKM.x ?_;conv=>whnf)|(refine CallP.go (hD1) ?_;conv=>whnf)|(refine CallP.go (hD2) ?_;conv=>whnf)|(refine CallP.go (hO) ?_;conv=>whnf)|(refine CallP.go (hC) ?_;conv=>whnf)))
 exact FinP.b rfl
theorem ctl_a0 (B A:List Rat) (m:Nat):(ctlQ B A (m+1)).a.take 1=[(List.range (m+1)).map fun k => -(A.getD (k+1) 0)]:=by
 simp [ctlQ,List.range_succ_eq_map]
theorem ctl_ai {B A:List Rat} {n i:Nat} (h1:1≤i) (hi:i<n):(ctlQ B A n).a[i]? = some (unitL n ((i-1:Nat):Int)):=by
 simp only[ctlQ,List.getElem?_map,List.getElem?_range hi,Option.map_some]
 rw[if_neg (by omega)]
theorem ctl_ci {B A:List Rat} {n i:Nat} (hi:i<n):(ctlQ B A n).c[i]? = some (B.getD (i+1) 0-B.getD 0 0*A.getD (i+1) 0):=by
 simp only[ctlQ,List.getElem?_map,List.getElem?_range hi,Option.map_some]
theorem ctl_c0 (B A:List Rat) (m:Nat):(ctlQ B A (m+1)).c.take 1=[B.getD 1 0-B.getD 0 0*A.getD 1 0]:=by
 rw[List.take_add_one,ctl_ci (by omega)];rfl
theorem ctl_al (B A:List Rat) (n:Nat):(ctlQ B A n).a.length=n:=by simp [ctlQ]
theorem ctl_cl (B A:List Rat) (n:Nat):(ctlQ B A n).c.length=n:=by simp [ctlQ]
theorem take_snocX {α:Type} {l:List α} {i:Nat} {x:α} (h:l[i]? = some x):l.take (i+1)=l.take i++[x]:=by
 rw[List.take_add_one,h];rfl
theorem cl_eSt (S:SysQ) (e:Int):Clean (.tup [.agg (eS S),.int .i64 e]):=by
 have:=cl_eS S
 simp only[Clean,CleanL,true_and,and_true]at this ⊢
 exact this
theorem ev_Controller (N:StGLib L) (w1 w2:Bool) (B A:List Rat) (n k:Nat) (hB:trimQ B=B) (hA:trimQ A=A) (bB:Bs k B) (bA:Bs k A) (lB:B.length≤17) (lA:A.length≤17) (h0:A[0]? = some 1) (hn:max (B.length-1) (A.length-1)=n) (hk:k≤1000000) :
  Ev L 207 [.agg [.sl w1 (B.map eQ),.sl w2 (A.map eQ)]] (.tup [.agg (eS (ctlQ B A n)),.int .i64 0]):=by
 have hV:=ev_rValid N w1 w2 B A k bB bA (by omega) (by omega) (by omega) h0
 have hD1:=ev_sDegree N w1 B k hB bB (by omega) (by omega)
 have hD2:=ev_sDegree N w2 A k hA bA (by omega) (by omega)
 have hO:=ev_rational_Of N.toRatGLib 1 (by omega)
 have hB0:=ev_sAt N w1 B 0 k (by omega) bB (by omega) (by omega)
 rw[show B.getD (0:Int).toNat 0=B.getD 0 0 from rfl]at hB0
 have hZ:=ev_sZeros N n (by omega)
 have bB0:Bt k (B.getD 0 0):=getD_bt bB 0
 have hcf : ∀ i:Nat,Ev L 205 [.sl w1 (B.map eQ),.int .i64 ((i:Int)+1)] (.agg (eQ (B.getD (i+1) 0)))∧Ev L 205 [.sl w2 (A.map eQ),.int .i64 ((i:Int)+1)] (.agg (eQ (A.getD (i+1) 0))) ∧
   Ev L 99 [.agg (eQ (B.getD 0 0)),.agg (eQ (A.getD (i+1) 0))] (.agg (eQ (B.getD 0 0*A.getD (i+1) 0)))∧Ev L 150 [.agg (eQ (B.getD (i+1) 0)),.agg (eQ (B.getD 0 0*A.getD (i+1) 0))] (.agg (eQ (B.getD (i+1) 0-B.getD 0 0*A.getD (i+1) 0))) ∧
   Ev L 199 [.agg (eQ (A.getD (i+1) 0))] (.agg (eQ (-(A.getD (i+1) 0)))):=fun i=>by
  have e1:=ev_sAt N w1 B ((i:Int)+1) k (by omega) bB (by omega) (by omega)
  have e2:=ev_sAt N w2 A ((i:Int)+1) k (by omega) bA (by omega) (by omega)
  rw[show ((i:Int)+1).toNat=i+1 by omega]at e1 e2
  exact ⟨e1,e2,ev_mulQ N.toRatGLib bB0 (getD_bt bA _) (by omega) (by omega),ev_subQ N.toRatHLib (getD_bt bB _) (bB0.mul (getD_bt bA _)) (by omega) (by omega),ev_negQ N (getD_bt bA _) (by omega)⟩
 have hd:(ctlQ B A n).d=B.getD 0 0:=rfl
 have hal:=ctl_al B A n
 have hcl:=ctl_cl B A n
 have hres:eS (ctlQ B A n)=[.sl false ((ctlQ B A n).a.map fun r=>[AV.sl false (r.map eQ)]),.sl false ((unitL n 0).map eQ),.sl false ((ctlQ B A n).c.map eQ)]++eQ (B.getD 0 0):=rfl
 have hfin:=cl_eSt (ctlQ B A n) 0
 rw[hres]at hfin ⊢
 have hai : ∀ i,1≤i→i<n→(ctlQ B A n).a[i]? = some (unitL n ((i-1:Nat):Int)):=fun i h1 h2=>ctl_ai h1 h2
 have hci : ∀ i,i<n→(ctlQ B A n).c[i]? = some (B.getD (i+1) 0-B.getD 0 0*A.getD (i+1) 0):=fun i h=>ctl_ci h
 have ha1:0<n→(ctlQ B A n).a.take 1=[(List.range n).map fun k => -(A.getD (k+1) 0)]:=fun h=>by
  obtain ⟨m,rfl⟩ : ∃ m,n=m+1:=⟨n-1,by omega⟩
  exact ctl_a0 B A m
 have hc1:0<n→(ctlQ B A n).c.take 1=[B.getD (0+1) 0-B.getD 0 0*A.getD (0+1) 0]:=fun h=>by
  obtain ⟨m,rfl⟩ : ∃ m,n=m+1:=⟨n-1,by omega⟩
  exact ctl_c0 B A m
 have hr0 : ∀ j,j<n→((List.range n).map fun k => -(A.getD (k+1) 0))[j]? = some (-(A.getD (j+1) 0)):=fun j h=>by
  rw[List.getElem?_map,List.getElem?_range h];rfl
 have hr0l:((List.range n).map fun k => -(A.getD (k+1) 0)).length=n:=by simp
 have hul : ∀ j,(unitL n j).length=n:=fun j=>unitL_len n j
 generalize (ctlQ B A n).a=a at *
 generalize (ctlQ B A n).c=c at *
 generalize (List.range n).map (fun k => -(A.getD (k+1) 0))=r0 at *
 generalize B.getD 0 0=b0 at *
 rcases Nat.lt_or_ge (B.length-1) (A.length-1) with hlt|hge
 ·rw[show A.length-1=n by omega]at hD2 hlt
  refine Ev.x N.statespace_Controller rfl rfl ?_
  (repeat' (first|(refine CmpP.go (fun hc => ?_) (fun hc => ?_)<;>first|(exfalso;omega)|(conv=>whnf))|(refine AKM.x ?_;conv=>whnf)|(refine CallP.go (hV) ?_;conv=>whnf)|(refine CallP.go (hD1) ?_;conv=>whnf)|(refine CallP.go (hD2) ?_;conv=>whnf)|(refine CallP.go (hB0) ?_;conv=>whnf)))
  refine CallR.go (enc:=eQ) n hZ (by simp) ?_
  (conv=>whnf)
  by_cases hn0:n=0
  ·skip
   exact absurd hlt (by omega)
  ·(repeat' (first|(refine CmpP.go (fun hc => ?_) (fun hc => ?_)<;>first|(exfalso;omega)|(conv=>whnf))|(refine Req.go ?_ ?_;omega;conv=>whnf)|(refine CallP.go (hO) ?_;conv=>whnf)))
   refine StR.at (enc:=eQ) 0 1 rfl rfl (fun _=>rfl) (by simp;omega) ?_
   (conv=>whnf)
   rw[show (List.replicate n (0:Rat)).set 0 1=unitL n 0 from unit_set n 0]
   skip
   refine AKM.lp ?_
   (repeat' (first|(refine CmpP.go (fun hc => ?_) (fun hc => ?_)<;>first|(exfalso;omega)|(conv=>whnf))|(refine AKM.x ?_;conv=>whnf)))
   refine CallR.go (enc:=eQ) n hZ (by simp) ?_
   (conv=>whnf)
   (repeat' (refine CmpP.go (fun hc => ?_) (fun hc => ?_)<;>first|(exfalso;omega)|(conv=>whnf)))
   refine AKM.loop1 (fun j=>n-j) (fun (j:Nat)=>j≤n) (fun j=>[(50,.int .i64 j)]) (fun j=>[(41,41,.rw 3 ((cz r0 n j).map eQ))]) [] [] 0 (by first|exact (by (conv=>whnf);exact ⟨rfl,rfl,rfl⟩)|(rw[cz_zero];exact (by (conv=>whnf);exact ⟨rfl,rfl,rfl⟩))) (by omega) ?_
   intro j p1 ih
   have hcl2:=cz_len (row:=r0) p1
   by_cases hj:j<n
   ·have hst:=cz_set (hr0 j hj) hj
    obtain ⟨f1,f2,f3,f4,f5⟩:=hcf j
    (repeat' (first|(refine CmpP.go (fun hc => ?_) (fun hc => ?_)<;>first|(exfalso;omega)|(conv=>whnf))|(refine Req.go ?_ ?_;omega;conv=>whnf)|(refine OpP.add ?_ ?_;omega;conv=>whnf)|(refine AKM.x ?_;conv=>whnf)|(refine CallP.go (f2) ?_;conv=>whnf)|(refine CallP.go (f5) ?_;conv=>whnf)))
    refine StR.nat (enc:=eQ) (-(A.getD (j+1) 0)) rfl (fun _=>rfl) (by omega) ?_
    (conv=>whnf)
    (repeat' (refine OpP.add ?_ ?_;omega;conv=>whnf))
    rw[hst]
    exact AKM.back [] (by (conv=>whnf);exact ⟨rfl,rfl,rfl⟩) (ih (j+1) (by omega) (by omega))
   obtain rfl:j=n:=by omega
   clear ih
   rw[cz_full hr0l]
   obtain ⟨f1,f2,f3,f4,f5⟩:=hcf 0
   (repeat' (first|(refine CmpP.go (fun hc => ?_) (fun hc => ?_)<;>first|(exfalso;omega)|(conv=>whnf))|(refine AKM.x ?_;conv=>whnf)))
   refine Req.go ⟨by rw[List.length_map];omega,by omega⟩ ?_
   (conv=>whnf)
   (repeat' (first|(refine OpP.add ?_ ?_;omega;conv=>whnf)|(refine RowP.e1 ?_;conv=>whnf)|(refine CallP.go (hB0) ?_;conv=>whnf)|(refine CallP.go (f1) ?_;conv=>whnf)|(refine CallP.go (f2) ?_;conv=>whnf)|(refine CallP.go (f3) ?_;conv=>whnf)|(refine CallP.go (f4) ?_;conv=>whnf)))
   refine AppN.one (enc:=eQ) (B.getD (0+1) 0-b0*A.getD (0+1) 0) rfl rfl (by omega) ?_
   (conv=>whnf)
   (repeat' (refine OpP.add ?_ ?_;omega;conv=>whnf))
   refine AKM.loop1 (fun i=>j-i) (fun (i:Nat)=>1≤i∧i≤j) (fun i=>[(37,.int .i64 i)]) (fun i=>[(5,5,.bx ([.row 67 0 1 0 i,.row 28 0 3 0 j,.row 88 0 3 0 i]++eQ b0)),(67,67,.mx (mxR 3 eQ (a.take i))),(88,88,.rw 3 ((c.take i).map eQ))]) [] [] 1 (by first|exact (by (conv=>whnf);exact ⟨rfl,rfl,rfl⟩)|(rw[ha1 (by omega),hc1 (by omega)];exact (by (conv=>whnf);exact ⟨rfl,rfl,rfl⟩))) (by omega) ?_
   intro i ⟨g1,g2⟩ ih
   have hai2:(a.take i).length=i:=by rw[List.length_take];omega
   have hci2:(c.take i).length=i:=by rw[List.length_take];omega
   by_cases hi:i<j
   ·obtain ⟨f1,f2,f3,f4,f5⟩:=hcf i
    have hsa:=take_snocX (hai i g1 hi)
    have hsc:=take_snocX (hci i hi)
    have hai3:(a.take (i+1)).length=i+1:=by rw[List.length_take];omega
    have hci3:(c.take (i+1)).length=i+1:=by rw[List.length_take];omega
    have hul2:=hul ((i-1:Nat):Int)
    (repeat' (first|(refine CmpP.go (fun hc => ?_) (fun hc => ?_)<;>first|(exfalso;omega)|(conv=>whnf))|(refine AKM.x ?_;conv=>whnf)))
    refine CallR.go (enc:=eQ) j hZ (by simp) ?_
    (conv=>whnf)
    (repeat' (first|(refine CmpP.go (fun hc => ?_) (fun hc => ?_)<;>first|(exfalso;omega)|(conv=>whnf))|(refine Req.go ?_ ?_;omega;conv=>whnf)|(refine OpP.sub ?_ ?_;omega;conv=>whnf)|(refine CallP.go (hO) ?_;conv=>whnf)))
    refine StR.at (enc:=eQ) (i-1) 1 (by omega) rfl (fun _=>rfl) (by simp;omega) ?_
    (conv=>whnf)
    rw[unit_set]
    skip
    refine Req.go (by rw[List.length_map];omega) ?_
    refine AppM.go (r:=unitL j ((i-1:Nat):Int)) (en:=eQ) hai2.symm (by omega) (by omega) ?_
    rw[←hsa,hai3]
    (conv=>whnf)
    (repeat' (first|(refine OpP.add ?_ ?_;omega;conv=>whnf)|(refine RowP.e1 ?_;conv=>whnf)|(refine CallP.go (hB0) ?_;conv=>whnf)|(refine CallP.go (f1) ?_;conv=>whnf)|(refine CallP.go (f2) ?_;conv=>whnf)|(refine CallP.go (f3) ?_;conv=>whnf)|(refine CallP.go (f4) ?_;conv=>whnf)))
    refine AppR.one (enc:=eQ) (B.getD (i+1) 0-b0*A.getD (i+1) 0) rfl hci2.symm rfl (by omega) (by omega) ?_
    rw[←hsc,hci3]
    (conv=>whnf)
    (repeat' (refine OpP.add ?_ ?_;omega;conv=>whnf))
    exact AKM.back [(67,1000067),(88,1000088)] (by (conv=>whnf);exact ⟨rfl,rfl,rfl⟩) (ih (i+1) (by omega) (by omega))
   obtain rfl:i=j:=by omega
   clear ih
   rw[List.take_of_length_le (Nat.le_of_eq hal),List.take_of_length_le (Nat.le_of_eq hcl)]at *
   (repeat' (first|(refine CmpP.go (fun hc => ?_) (fun hc => ?_)<;>first|(exfalso;omega)|(conv=>whnf))|(refine AKM.x ?_;conv=>whnf)))
   refine SnM.all (fun _=>rfl) rfl hal.symm ?_
   (conv=>whnf)
   refine SnR.all (enc:=eQ) (fun _=>rfl) rfl (hul 0).symm ?_
   (conv=>whnf)
   refine SnR.all (enc:=eQ) (fun _=>rfl) rfl hcl.symm ?_
   (conv=>whnf)
   exact FinP.go rfl hfin
 ·rw[show B.length-1=n by omega]at hD1 hge
  refine Ev.x N.statespace_Controller rfl rfl ?_
  (repeat' (first|(refine CmpP.go (fun hc => ?_) (fun hc => ?_)<;>first|(exfalso;omega)|(conv=>whnf))|(refine AKM.x ?_;conv=>whnf)|(refine CallP.go (hV) ?_;conv=>whnf)|(refine CallP.go (hD1) ?_;conv=>whnf)|(refine CallP.go (hD2) ?_;conv=>whnf)|(refine CallP.go (hB0) ?_;conv=>whnf)))
  refine CallR.go (enc:=eQ) n hZ (by simp) ?_
  (conv=>whnf)
  by_cases hn0:n=0
  ·skip
   subst hn0
   (repeat' (refine CmpP.go (fun hc => ?_) (fun hc => ?_)<;>first|(exfalso;omega)|(conv=>whnf)))
   refine AKM.lp ?_
   (repeat' (first|(refine CmpP.go (fun hc => ?_) (fun hc => ?_)<;>first|(exfalso;omega)|(conv=>whnf))|(refine SnR.all (fun _=>rfl) rfl ?_ ?_;(first|rfl|simp);conv=>whnf)|(refine AKM.x ?_;conv=>whnf)))
   rw[List.eq_nil_of_length_eq_zero hal,List.eq_nil_of_length_eq_zero hcl]at *
   exact FinP.go rfl hfin
  ·(repeat' (first|(refine CmpP.go (fun hc => ?_) (fun hc => ?_)<;>first|(exfalso;omega)|(conv=>whnf))|(refine Req.go ?_ ?_;omega;conv=>whnf)|(refine CallP.go (hO) ?_;conv=>whnf)))
   refine StR.at (enc:=eQ) 0 1 rfl rfl (fun _=>rfl) (by simp;omega) ?_
   (conv=>whnf)
   rw[show (List.replicate n (0:Rat)).set 0 1=unitL n 0 from unit_set n 0]
   skip
   refine AKM.lp ?_
   (repeat' (first|(refine CmpP.go (fun hc => ?_) (fun hc => ?_)<;>first|(exfalso;omega)|(conv=>whnf))|(refine AKM.x ?_;conv=>whnf)))
   refine CallR.go (enc:=eQ) n hZ (by simp) ?_
   (conv=>whnf)
   (repeat' (refine CmpP.go (fun hc => ?_) (fun hc => ?_)<;>first|(exfalso;omega)|(conv=>whnf)))
   refine AKM.loop1 (fun j=>n-j) (fun (j:Nat)=>j≤n) (fun j=>[(50,.int .i64 j)]) (fun j=>[(41,41,.rw 3 ((cz r0 n j).map eQ))]) [] [] 0 (by first|exact (by (conv=>whnf);exact ⟨rfl,rfl,rfl⟩)|(rw[cz_zero];exact (by (conv=>whnf);exact ⟨rfl,rfl,rfl⟩))) (by omega) ?_
   intro j p1 ih
   have hcl2:=cz_len (row:=r0) p1
   by_cases hj:j<n
   ·have hst:=cz_set (hr0 j hj) hj
    obtain ⟨f1,f2,f3,f4,f5⟩:=hcf j
    (repeat' (first|(refine CmpP.go (fun hc => ?_) (fun hc => ?_)<;>first|(exfalso;omega)|(conv=>whnf))|(refine Req.go ?_ ?_;omega;conv=>whnf)|(refine OpP.add ?_ ?_;omega;conv=>whnf)|(refine AKM.x ?_;conv=>whnf)|(refine CallP.go (f2) ?_;conv=>whnf)|(refine CallP.go (f5) ?_;conv=>whnf)))
    refine StR.nat (enc:=eQ) (-(A.getD (j+1) 0)) rfl (fun _=>rfl) (by omega) ?_
    (conv=>whnf)
    (repeat' (refine OpP.add ?_ ?_;omega;conv=>whnf))
    rw[hst]
    exact AKM.back [] (by (conv=>whnf);exact ⟨rfl,rfl,rfl⟩) (ih (j+1) (by omega) (by omega))
   obtain rfl:j=n:=by omega
   clear ih
   rw[cz_full hr0l]
   obtain ⟨f1,f2,f3,f4,f5⟩:=hcf 0
   (repeat' (first|(refine CmpP.go (fun hc => ?_) (fun hc => ?_)<;>first|(exfalso;omega)|(conv=>whnf))|(refine AKM.x ?_;conv=>whnf)))
   refine Req.go ⟨by rw[List.length_map];omega,by omega⟩ ?_
   (conv=>whnf)
   (repeat' (first|(refine OpP.add ?_ ?_;omega;conv=>whnf)|(refine RowP.e1 ?_;conv=>whnf)|(refine CallP.go (hB0) ?_;conv=>whnf)|(refine CallP.go (f1) ?_;conv=>whnf)|(refine CallP.go (f2) ?_;conv=>whnf)|(refine CallP.go (f3) ?_;conv=>whnf)|(refine CallP.go (f4) ?_;conv=>whnf)))
   refine AppN.one (enc:=eQ) (B.getD (0+1) 0-b0*A.getD (0+1) 0) rfl rfl (by omega) ?_
   (conv=>whnf)
   (repeat' (refine OpP.add ?_ ?_;omega;conv=>whnf))
   refine AKM.loop1 (fun i=>j-i) (fun (i:Nat)=>1≤i∧i≤j) (fun i=>[(37,.int .i64 i)]) (fun i=>[(5,5,.bx ([.row 67 0 1 0 i,.row 28 0 3 0 j,.row 88 0 3 0 i]++eQ b0)),(67,67,.mx (mxR 3 eQ (a.take i))),(88,88,.rw 3 ((c.take i).map eQ))]) [] [] 1 (by first|exact (by (conv=>whnf);exact ⟨rfl,rfl,rfl⟩)|(rw[ha1 (by omega),hc1 (by omega)];exact (by (conv=>whnf);exact ⟨rfl,rfl,rfl⟩))) (by omega) ?_
   intro i ⟨g1,g2⟩ ih
   have hai2:(a.take i).length=i:=by rw[List.length_take];omega
   have hci2:(c.take i).length=i:=by rw[List.length_take];omega
   by_cases hi:i<j
   ·obtain ⟨f1,f2,f3,f4,f5⟩:=hcf i
    have hsa:=take_snocX (hai i g1 hi)
    have hsc:=take_snocX (hci i hi)
    have hai3:(a.take (i+1)).length=i+1:=by rw[List.length_take];omega
    have hci3:(c.take (i+1)).length=i+1:=by rw[List.length_take];omega
    have hul2:=hul ((i-1:Nat):Int)
    (repeat' (first|(refine CmpP.go (fun hc => ?_) (fun hc => ?_)<;>first|(exfalso;omega)|(conv=>whnf))|(refine AKM.x ?_;conv=>whnf)))
    refine CallR.go (enc:=eQ) j hZ (by simp) ?_
    (conv=>whnf)
    (repeat' (first|(refine CmpP.go (fun hc => ?_) (fun hc => ?_)<;>first|(exfalso;omega)|(conv=>whnf))|(refine Req.go ?_ ?_;omega;conv=>whnf)|(refine OpP.sub ?_ ?_;omega;conv=>whnf)|(refine CallP.go (hO) ?_;conv=>whnf)))
    refine StR.at (enc:=eQ) (i-1) 1 (by omega) rfl (fun _=>rfl) (by simp;omega) ?_
    (conv=>whnf)
    rw[unit_set]
    skip
    refine Req.go (by rw[List.length_map];omega) ?_
    refine AppM.go (r:=unitL j ((i-1:Nat):Int)) (en:=eQ) hai2.symm (by omega) (by omega) ?_
    rw[←hsa,hai3]
    (conv=>whnf)
    (repeat' (first|(refine OpP.add ?_ ?_;omega;conv=>whnf)|(refine RowP.e1 ?_;conv=>whnf)|(refine CallP.go (hB0) ?_;conv=>whnf)|(refine CallP.go (f1) ?_;conv=>whnf)|(refine CallP.go (f2) ?_;conv=>whnf)|(refine CallP.go (f3) ?_;conv=>whnf)|(refine CallP.go (f4) ?_;conv=>whnf)))
    refine AppR.one (enc:=eQ) (B.getD (i+1) 0-b0*A.getD (i+1) 0) rfl hci2.symm rfl (by omega) (by omega) ?_
    rw[←hsc,hci3]
    (conv=>whnf)
    (repeat' (refine OpP.add ?_ ?_;omega;conv=>whnf))
    exact AKM.back [(67,1000067),(88,1000088)] (by (conv=>whnf);exact ⟨rfl,rfl,rfl⟩) (ih (i+1) (by omega) (by omega))
   obtain rfl:i=j:=by omega
   clear ih
   rw[List.take_of_length_le (Nat.le_of_eq hal),List.take_of_length_le (Nat.le_of_eq hcl)]at *
   (repeat' (first|(refine CmpP.go (fun hc => ?_) (fun hc => ?_)<;>first|(exfalso;omega)|(conv=>whnf))|(refine AKM.x ?_;conv=>whnf)))
   refine SnM.all (fun _=>rfl) rfl hal.symm ?_
   (conv=>whnf)
   refine SnR.all (enc:=eQ) (fun _=>rfl) rfl (hul 0).symm ?_
   (conv=>whnf)
   refine SnR.all (enc:=eQ) (fun _=>rfl) rfl hcl.symm ?_
   (conv=>whnf)
   exact FinP.go rfl hfin
end Go.Eng

namespace Go.Eng
open F
attribute [local irreducible] AKM CmpP Req OpP UnP ConvP RdP LdR StR MkR LenP AppR AppN CpyR RowP SnR Bds SlS CallP CalP FinP pw LdM GetM SetM PutM MkM AppM SnM FlP CallR
set_option maxHeartbeats 16000000
variable {L:Lib}
theorem ev_z27 (N:StGLib L) (n:Nat) (hn:n≤65536):EvR L 210 [.int .i64 (n:Int)] 3 ((List.replicate n (0:Rat)).map eQ):=by
 have hO:=ev_r3_Of N.toRefGLib 0 (by omega)
 refine EvR.x N.ref27_zeros rfl rfl ?_
 (repeat' (refine AKM.x ?_;conv=>whnf))
 refine AKM.loop1 (fun i=>n-i) (fun (i:Nat)=>i≤n) (fun i=>[(4,.int .i64 i),(3,.row 3 0 3 0 i)]) (fun i=>[(3,3,.rw 3 ((List.replicate i (0:Rat)).map eQ))]) [] [] 0 (by (conv=>whnf);exact ⟨rfl,rfl,rfl⟩) (by omega) ?_
 intro i p1 ih
 have hlen:(List.replicate i (0:Rat)).length=i:=by simp
 by_cases hi:i<n
 ·have hsucc:List.replicate (i+1) (0:Rat)=List.replicate i 0++[((0:Int):Rat)]:=List.replicate_succ'
  (repeat' (first|(refine CmpP.go (fun hc => ?_) (fun hc => ?_)<;>first|(exfalso;omega)|(conv=>whnf))|(refine RowP.e1 ?_;conv=>whnf)|(refine AKM.x ?_;conv=>whnf)|(refine CallP.go (hO) ?_;conv=>whnf)))
  refine AppR.one (enc:=eQ) ((0:Int):Rat) rfl hlen.symm rfl (by omega) (by omega) ?_
  (conv=>whnf)
  (repeat' (refine OpP.add ?_ ?_;omega;conv=>whnf))
  rw[←hsucc,show (List.replicate (i+1) (0:Rat)).length=i+1 by simp]
  exact AKM.back [(3,13)] (by (conv=>whnf);exact ⟨rfl,rfl,rfl⟩) (ih (i+1) (by omega) (by omega))
 ·obtain rfl:i=n:=by omega
  clear ih
  (repeat' (first|(refine CmpP.go (fun hc => ?_) (fun hc => ?_)<;>first|(exfalso;omega)|(conv=>whnf))|(refine AKM.x ?_;conv=>whnf)))
  exact ⟨rfl,rfl,by simp,rfl,cl_eQs _⟩
theorem ev_at27 (N:StGLib L) (q:Bool) (l:List Rat) (i:Int) (k:Nat) (h0:0≤i) (hl:Bs k l) (hk:k<2199023255552) (hn:l.length≤1000000):Ev L 209 [.sl q (l.map eQ),.int .i64 i] (.agg (eQ (l.getD i.toNat 0))):=by
 have hO:=ev_r3_Of N.toRefGLib 0 (by omega)
 refine Ev.x N.ref27_at rfl rfl ?_
 by_cases hi:i<l.length
 ·obtain ⟨x,hx⟩ : ∃ x,l[i.toNat]? = some x:=⟨_,List.getElem?_eq_getElem (by omega)⟩
  have hT:=ev_trim3 N.toRefGLib (hl.at hx) hk
  rw[gD_of hx]
  (repeat' (first|(refine CmpP.go (fun hc => ?_) (fun hc => ?_)<;>first|(exfalso;omega)|(conv=>whnf))|(refine LenP.go ?_;conv=>whnf)|(refine RdP.at (by assumption) ?_ rfl ?_;omega;conv=>whnf)|(refine AKM.x ?_;conv=>whnf)|(refine CallP.go (hT) ?_;conv=>whnf)))
  exact FinP.go rfl (cl_eQ _)
 ·rw[gD_ge (l:=l) (by omega)]
  (repeat' (first|(refine CmpP.go (fun hc => ?_) (fun hc => ?_)<;>first|(exfalso;omega)|(conv=>whnf))|(refine LenP.go ?_;conv=>whnf)|(refine AKM.x ?_;conv=>whnf)|(refine CallP.go (hO) ?_;conv=>whnf)))
  exact FinP.go rfl (cl_eQ _)
theorem ev_20Valid (N:StGLib L) (q1 q2:Bool) (B A:List Rat) (k:Nat) (hB:Bs k B) (hA:Bs k A) (hk:k<2199023255552) (lB:B.length≤49) (lA:A.length≤49) (h0:A.getD 0 0=1):Ev L 203 [.agg [.sl q1 (B.map eQ),.sl q2 (A.map eQ)]] (.bool true):=by
 have c1:=cutN_le B B.length
 have c2:=cutN_le A A.length
 have hD1:=ev_r5_Degree N q1 B k hB hk (by omega)
 have hD2:=ev_r5_Degree N q2 A k hA hk (by omega)
 have hO:=ev_r3_Of N.toRefGLib 1 (by omega)
 have hC:=ev_cmp3 N.toRefGLib (Bt.one 1) (Bt.one 1) (by omega) (by omega)
 rw[sgn_sub.2 rfl]at hC
 have hAt:Ev L 192 [.sl q2 (A.map eQ),.int .i64 0] (.agg (eQ 1)):=by
  have:=ev_r5_At N.toTrGLib q2 A 0 k hA hk (by omega)
  rw[h0]at this
  exact this
 generalize cutN B B.length=d1 at *
 generalize cutN A A.length=d2 at *
 refine Ev.x N.ref20_Valid rfl rfl ?_
 (repeat' (first|(refine CmpP.go (fun hc => ?_) (fun hc => ?_)<;>first|(exfalso;omega)|(conv=>whnf))|(refine AKM.x ?_;conv=>whnf)|(refine CallP.go (hD1) ?_;conv=>whnf)|(refine CallP.go (hD2) ?_;conv=>whnf)|(refine CallP.go (hAt) ?_;conv=>whnf)|(refine CallP.go (hO) ?_;conv=>whnf)|(refine CallP.go (hC) ?_;conv=>whnf)))
 exact FinP.b rfl
theorem cut_trim {l:List Rat} (h:trimQ l=l):cutN l l.length=l.length:=by rw[←trimQ_len,h]
theorem ev_Controller27 (N:StGLib L) (B A:List Rat) (n k:Nat) (hB:trimQ B=B) (hA:trimQ A=A) (bB:Bs k B) (bA:Bs k A) (lB:B.length≤17) (lA:A.length≤17) (h0:A[0]? = some 1) (hn:max (B.length-1) (A.length-1)=n) (hk:k≤1000000) :
  Ev L 211 [.agg [.sl false (B.map eQ),.sl false (A.map eQ)]] (.tup [.agg (eS (ctlQ B A n)),.int .i64 0]):=by
 have hAl:0<A.length:=(List.getElem?_eq_some_iff.1 h0).1
 have hV:=ev_20Valid N false false B A k bB bA (by omega) (by omega) (by omega) (gD_of h0)
 have hD1:=ev_r5_Degree N false B k bB (by omega) (by omega)
 have hD2:=ev_r5_Degree N false A k bA (by omega) (by omega)
 rw[cut_trim hB]at hD1
 rw[cut_trim hA]at hD2
 have hO:=ev_r3_Of N.toRefGLib 1 (by omega)
 have hB0:=ev_at27 N false B 0 k (by omega) bB (by omega) (by omega)
 rw[show B.getD (0:Int).toNat 0=B.getD 0 0 from rfl]at hB0
 have hZ:=ev_z27 N n (by omega)
 have bB0:Bt k (B.getD 0 0):=getD_bt bB 0
 have hcf : ∀ i:Nat,Ev L 209 [.sl false (B.map eQ),.int .i64 ((i:Int)+1)] (.agg (eQ (B.getD (i+1) 0)))∧Ev L 209 [.sl false (A.map eQ),.int .i64 ((i:Int)+1)] (.agg (eQ (A.getD (i+1) 0))) ∧
   Ev L 128 [.agg (eQ (B.getD 0 0)),.agg (eQ (A.getD (i+1) 0))] (.agg (eQ (B.getD 0 0*A.getD (i+1) 0)))∧Ev L 153 [.agg (eQ (B.getD (i+1) 0)),.agg (eQ (B.getD 0 0*A.getD (i+1) 0))] (.agg (eQ (B.getD (i+1) 0-B.getD 0 0*A.getD (i+1) 0))) ∧
   Ev L 152 [.agg (eQ (A.getD (i+1) 0))] (.agg (eQ (-(A.getD (i+1) 0))))∧Ev L 209 [.sl false (A.map eQ),.int .i64 ((i+1:Nat):Int)] (.agg (eQ (A.getD (i+1) 0))):=fun i=>by
  have e1:=ev_at27 N false B ((i:Int)+1) k (by omega) bB (by omega) (by omega)
  have e2:=ev_at27 N false A ((i:Int)+1) k (by omega) bA (by omega) (by omega)
  have e3:=ev_at27 N false A ((i+1:Nat):Int) k (by omega) bA (by omega) (by omega)
  rw[show ((i:Int)+1).toNat=i+1 by omega]at e1 e2
  exact ⟨e1,e2,ev_mul3 N.toRefGLib bB0 (getD_bt bA _) (by omega) (by omega),ev_sub3 N.toRefHLib (getD_bt bB _) (bB0.mul (getD_bt bA _)) (by omega) (by omega),ev_neg3 N.toRefHLib (getD_bt bA _) (by omega),e3⟩
 have hal:=ctl_al B A n
 have hcl:=ctl_cl B A n
 have hres:eS (ctlQ B A n)=[.sl false ((ctlQ B A n).a.map fun r=>[AV.sl false (r.map eQ)]),.sl false ((unitL n 0).map eQ),.sl false ((ctlQ B A n).c.map eQ)]++eQ (B.getD 0 0):=rfl
 have hfin:=cl_eSt (ctlQ B A n) 0
 rw[hres]at hfin ⊢
 have hai : ∀ i,1≤i→i<n→(ctlQ B A n).a[i]? = some (unitL n ((i-1:Nat):Int)):=fun i h1 h2=>ctl_ai h1 h2
 have hci : ∀ i,i<n→(ctlQ B A n).c[i]? = some (B.getD (i+1) 0-B.getD 0 0*A.getD (i+1) 0):=fun i h=>ctl_ci h
 have ha1:0<n→(ctlQ B A n).a.take 1=[(List.range n).map fun k => -(A.getD (k+1) 0)]:=fun h=>by
  obtain ⟨m,rfl⟩ : ∃ m,n=m+1:=⟨n-1,by omega⟩
  exact ctl_a0 B A m
 have hc1:0<n→(ctlQ B A n).c.take 1=[B.getD (0+1) 0-B.getD 0 0*A.getD (0+1) 0]:=fun h=>by
  obtain ⟨m,rfl⟩ : ∃ m,n=m+1:=⟨n-1,by omega⟩
  exact ctl_c0 B A m
 have hr0 : ∀ j,j<n→((List.range n).map fun k => -(A.getD (k+1) 0))[j]? = some (-(A.getD (j+1) 0)):=fun j h=>by
  rw[List.getElem?_map,List.getElem?_range h];rfl
 have hr0l:((List.range n).map fun k => -(A.getD (k+1) 0)).length=n:=by simp
 have hul : ∀ j,(unitL n j).length=n:=fun j=>unitL_len n j
 generalize (ctlQ B A n).a=a at *
 generalize (ctlQ B A n).c=c at *
 generalize (List.range n).map (fun k => -(A.getD (k+1) 0))=r0 at *
 generalize B.getD 0 0=b0 at *
 rcases Nat.lt_or_ge B.length A.length with hlt|hge
 ·rw[show (A.length:Int)-1=(n:Int) by omega]at hD2
  refine Ev.x N.ref27_Controller rfl rfl ?_
  (repeat' (first|(refine CmpP.go (fun hc => ?_) (fun hc => ?_)<;>first|(exfalso;omega)|(conv=>whnf))|(refine AKM.x ?_;conv=>whnf)|(refine CallP.go (hV) ?_;conv=>whnf)|(refine CallP.go (hD1) ?_;conv=>whnf)|(refine CallP.go (hD2) ?_;conv=>whnf)|(refine CallP.go (hB0) ?_;conv=>whnf)))
  refine CallR.go (enc:=eQ) n hZ (by simp) ?_
  (conv=>whnf)
  skip
  refine AKM.lp ?_
  by_cases hn0:n=0
  ·skip
   subst hn0
   (repeat' (first|(refine CmpP.go (fun hc => ?_) (fun hc => ?_)<;>first|(exfalso;omega)|(conv=>whnf))|(refine SnR.all (fun _=>rfl) rfl ?_ ?_;(first|rfl|simp);conv=>whnf)|(refine AKM.x ?_;conv=>whnf)))
   rw[List.eq_nil_of_length_eq_zero hal,List.eq_nil_of_length_eq_zero hcl]at *
   exact FinP.go rfl hfin
  ·(repeat' (first|(refine CmpP.go (fun hc => ?_) (fun hc => ?_)<;>first|(exfalso;omega)|(conv=>whnf))|(refine AKM.x ?_;conv=>whnf)))
   refine CallR.go (enc:=eQ) n hZ (by simp) ?_
   (conv=>whnf)
   (repeat' (first|(refine CmpP.go (fun hc => ?_) (fun hc => ?_)<;>first|(exfalso;omega)|(conv=>whnf))|(refine Req.go ?_ ?_;omega;conv=>whnf)|(refine CallP.go (hO) ?_;conv=>whnf)))
   refine StR.at (enc:=eQ) 0 1 rfl rfl (fun _=>rfl) (by simp;omega) ?_
   (conv=>whnf)
   rw[show (List.replicate n (0:Rat)).set 0 1=unitL n 0 from unit_set n 0]
   skip
   refine AKM.loop1 (fun j=>n-j) (fun (j:Nat)=>j≤n) (fun j=>[(8,.int .i64 ((j+1:Nat):Int))]) (fun j=>[(35,35,.rw 3 ((cz r0 n j).map eQ))]) [] [] 0 (by first|exact (by (conv=>whnf);exact ⟨rfl,rfl,rfl⟩)|(rw[cz_zero];exact (by (conv=>whnf);exact ⟨rfl,rfl,rfl⟩))) (by omega) ?_
   intro j p1 ih
   have hcl2:=cz_len (row:=r0) p1
   by_cases hj:j<n
   ·have hst:=cz_set (hr0 j hj) hj
    obtain ⟨f1,f2,f3,f4,f5,f6⟩:=hcf j
    (repeat' (first|(refine CmpP.go (fun hc => ?_) (fun hc => ?_)<;>first|(exfalso;omega)|(conv=>whnf))|(refine Req.go ?_ ?_;omega;conv=>whnf)|(refine OpP.sub ?_ ?_;omega;conv=>whnf)|(refine AKM.x ?_;conv=>whnf)|(refine CallP.go (f6) ?_;conv=>whnf)|(refine CallP.go (f5) ?_;conv=>whnf)))
    refine StR.at (enc:=eQ) j (-(A.getD (j+1) 0)) (by omega) rfl (fun _=>rfl) (by omega) ?_
    (conv=>whnf)
    (repeat' (refine OpP.add ?_ ?_;omega;conv=>whnf))
    rw[hst]
    exact AKM.back [] (by (conv=>whnf);exact ⟨rfl,rfl,rfl⟩) (ih (j+1) (by omega) (by omega))
   obtain rfl:j=n:=by omega
   clear ih
   rw[cz_full hr0l]
   obtain ⟨f1,f2,f3,f4,f5,f6⟩:=hcf 0
   (repeat' (first|(refine CmpP.go (fun hc => ?_) (fun hc => ?_)<;>first|(exfalso;omega)|(conv=>whnf))|(refine AKM.x ?_;conv=>whnf)))
   refine Req.go ⟨by rw[List.length_map];omega,by omega⟩ ?_
   (conv=>whnf)
   (repeat' (first|(refine OpP.add ?_ ?_;omega;conv=>whnf)|(refine RowP.e1 ?_;conv=>whnf)|(refine CallP.go (f1) ?_;conv=>whnf)|(refine CallP.go (f2) ?_;conv=>whnf)|(refine CallP.go (f3) ?_;conv=>whnf)|(refine CallP.go (f4) ?_;conv=>whnf)))
   refine AppN.one (enc:=eQ) (B.getD (0+1) 0-b0*A.getD (0+1) 0) rfl rfl (by omega) ?_
   (conv=>whnf)
   (repeat' (refine OpP.add ?_ ?_;omega;conv=>whnf))
   refine AKM.loop1 (fun i=>j-i) (fun (i:Nat)=>1≤i∧i≤j) (fun i=>[(6,.int .i64 i)]) (fun i=>[(5,5,.bx ([.row 65 0 1 0 i,.row 27 0 3 0 j,.row 84 0 3 0 i]++eQ b0)),(65,65,.mx (mxR 3 eQ (a.take i))),(84,84,.rw 3 ((c.take i).map eQ))]) [] [] 1 (by first|exact (by (conv=>whnf);exact ⟨rfl,rfl,rfl⟩)|(rw[ha1 (by omega),hc1 (by omega)];exact (by (conv=>whnf);exact ⟨rfl,rfl,rfl⟩))) (by omega) ?_
   intro i ⟨g1,g2⟩ ih
   have hai2:(a.take i).length=i:=by rw[List.length_take];omega
   have hci2:(c.take i).length=i:=by rw[List.length_take];omega
   by_cases hi:i<j
   ·obtain ⟨f1,f2,f3,f4,f5,f6⟩:=hcf i
    have hsa:=take_snocX (hai i g1 hi)
    have hsc:=take_snocX (hci i hi)
    have hai3:(a.take (i+1)).length=i+1:=by rw[List.length_take];omega
    have hci3:(c.take (i+1)).length=i+1:=by rw[List.length_take];omega
    have hul2:=hul ((i-1:Nat):Int)
    (repeat' (first|(refine CmpP.go (fun hc => ?_) (fun hc => ?_)<;>first|(exfalso;omega)|(conv=>whnf))|(refine AKM.x ?_;conv=>whnf)))
    refine CallR.go (enc:=eQ) j hZ (by simp) ?_
    (conv=>whnf)
    (repeat' (first|(refine CmpP.go (fun hc => ?_) (fun hc => ?_)<;>first|(exfalso;omega)|(conv=>whnf))|(refine Req.go ?_ ?_;omega;conv=>whnf)|(refine OpP.sub ?_ ?_;omega;conv=>whnf)|(refine CallP.go (hO) ?_;conv=>whnf)))
    refine StR.at (enc:=eQ) (i-1) 1 (by omega) rfl (fun _=>rfl) (by simp;omega) ?_
    (conv=>whnf)
    rw[unit_set]
    skip
    refine Req.go (by rw[List.length_map];omega) ?_
    refine AppM.go (r:=unitL j ((i-1:Nat):Int)) (en:=eQ) hai2.symm (by omega) (by omega) ?_
    rw[←hsa,hai3]
    (conv=>whnf)
    (repeat' (first|(refine OpP.add ?_ ?_;omega;conv=>whnf)|(refine RowP.e1 ?_;conv=>whnf)|(refine CallP.go (f1) ?_;conv=>whnf)|(refine CallP.go (f2) ?_;conv=>whnf)|(refine CallP.go (f3) ?_;conv=>whnf)|(refine CallP.go (f4) ?_;conv=>whnf)))
    refine AppR.one (enc:=eQ) (B.getD (i+1) 0-b0*A.getD (i+1) 0) rfl hci2.symm rfl (by omega) (by omega) ?_
    rw[←hsc,hci3]
    (conv=>whnf)
    (repeat' (refine OpP.add ?_ ?_;omega;conv=>whnf))
    exact AKM.back [(65,1000065),(84,1000084)] (by (conv=>whnf);exact ⟨rfl,rfl,rfl⟩) (ih (i+1) (by omega) (by omega))
   obtain rfl:i=j:=by omega
   clear ih
   rw[List.take_of_length_le (Nat.le_of_eq hal),List.take_of_length_le (Nat.le_of_eq hcl)]at *
   (repeat' (first|(refine CmpP.go (fun hc => ?_) (fun hc => ?_)<;>first|(exfalso;omega)|(conv=>whnf))|(refine AKM.x ?_;conv=>whnf)))
   refine SnM.all (fun _=>rfl) rfl hal.symm ?_
   (conv=>whnf)
   refine SnR.all (enc:=eQ) (fun _=>rfl) rfl (hul 0).symm ?_
   (conv=>whnf)
   refine SnR.all (enc:=eQ) (fun _=>rfl) rfl hcl.symm ?_
   (conv=>whnf)
   exact FinP.go rfl hfin
 ·rw[show (B.length:Int)-1=(n:Int) by omega]at hD1
  refine Ev.x N.ref27_Controller rfl rfl ?_
  (repeat' (first|(refine CmpP.go (fun hc => ?_) (fun hc => ?_)<;>first|(exfalso;omega)|(conv=>whnf))|(refine AKM.x ?_;conv=>whnf)|(refine CallP.go (hV) ?_;conv=>whnf)|(refine CallP.go (hD1) ?_;conv=>whnf)|(refine CallP.go (hD2) ?_;conv=>whnf)|(refine CallP.go (hB0) ?_;conv=>whnf)))
  refine CallR.go (enc:=eQ) n hZ (by simp) ?_
  (conv=>whnf)
  skip
  refine AKM.lp ?_
  by_cases hn0:n=0
  ·skip
   subst hn0
   (repeat' (first|(refine CmpP.go (fun hc => ?_) (fun hc => ?_)<;>first|(exfalso;omega)|(conv=>whnf))|(refine SnR.all (fun _=>rfl) rfl ?_ ?_;(first|rfl|simp);conv=>whnf)|(refine AKM.x ?_;conv=>whnf)))
   rw[List.eq_nil_of_length_eq_zero hal,List.eq_nil_of_length_eq_zero hcl]at *
   exact FinP.go rfl hfin
  ·(repeat' (first|(refine CmpP.go (fun hc => ?_) (fun hc => ?_)<;>first|(exfalso;omega)|(conv=>whnf))|(refine AKM.x ?_;conv=>whnf)))
   refine CallR.go (enc:=eQ) n hZ (by simp) ?_
   (conv=>whnf)
   (repeat' (first|(refine CmpP.go (fun hc => ?_) (fun hc => ?_)<;>first|(exfalso;omega)|(conv=>whnf))|(refine Req.go ?_ ?_;omega;conv=>whnf)|(refine CallP.go (hO) ?_;conv=>whnf)))
   refine StR.at (enc:=eQ) 0 1 rfl rfl (fun _=>rfl) (by simp;omega) ?_
   (conv=>whnf)
   rw[show (List.replicate n (0:Rat)).set 0 1=unitL n 0 from unit_set n 0]
   skip
   refine AKM.loop1 (fun j=>n-j) (fun (j:Nat)=>j≤n) (fun j=>[(8,.int .i64 ((j+1:Nat):Int))]) (fun j=>[(35,35,.rw 3 ((cz r0 n j).map eQ))]) [] [] 0 (by first|exact (by (conv=>whnf);exact ⟨rfl,rfl,rfl⟩)|(rw[cz_zero];exact (by (conv=>whnf);exact ⟨rfl,rfl,rfl⟩))) (by omega) ?_
   intro j p1 ih
   have hcl2:=cz_len (row:=r0) p1
   by_cases hj:j<n
   ·have hst:=cz_set (hr0 j hj) hj
    obtain ⟨f1,f2,f3,f4,f5,f6⟩:=hcf j
    (repeat' (first|(refine CmpP.go (fun hc => ?_) (fun hc => ?_)<;>first|(exfalso;omega)|(conv=>whnf))|(refine Req.go ?_ ?_;omega;conv=>whnf)|(refine OpP.sub ?_ ?_;omega;conv=>whnf)|(refine AKM.x ?_;conv=>whnf)|(refine CallP.go (f6) ?_;conv=>whnf)|(refine CallP.go (f5) ?_;conv=>whnf)))
    refine StR.at (enc:=eQ) j (-(A.getD (j+1) 0)) (by omega) rfl (fun _=>rfl) (by omega) ?_
    (conv=>whnf)
    (repeat' (refine OpP.add ?_ ?_;omega;conv=>whnf))
    rw[hst]
    exact AKM.back [] (by (conv=>whnf);exact ⟨rfl,rfl,rfl⟩) (ih (j+1) (by omega) (by omega))
   obtain rfl:j=n:=by omega
   clear ih
   rw[cz_full hr0l]
   obtain ⟨f1,f2,f3,f4,f5,f6⟩:=hcf 0
   (repeat' (first|(refine CmpP.go (fun hc => ?_) (fun hc => ?_)<;>first|(exfalso;omega)|(conv=>whnf))|(refine AKM.x ?_;conv=>whnf)))
   refine Req.go ⟨by rw[List.length_map];omega,by omega⟩ ?_
   (conv=>whnf)
   (repeat' (first|(refine OpP.add ?_ ?_;omega;conv=>whnf)|(refine RowP.e1 ?_;conv=>whnf)|(refine CallP.go (f1) ?_;conv=>whnf)|(refine CallP.go (f2) ?_;conv=>whnf)|(refine CallP.go (f3) ?_;conv=>whnf)|(refine CallP.go (f4) ?_;conv=>whnf)))
   refine AppN.one (enc:=eQ) (B.getD (0+1) 0-b0*A.getD (0+1) 0) rfl rfl (by omega) ?_
   (conv=>whnf)
   (repeat' (refine OpP.add ?_ ?_;omega;conv=>whnf))
   refine AKM.loop1 (fun i=>j-i) (fun (i:Nat)=>1≤i∧i≤j) (fun i=>[(6,.int .i64 i)]) (fun i=>[(5,5,.bx ([.row 65 0 1 0 i,.row 27 0 3 0 j,.row 84 0 3 0 i]++eQ b0)),(65,65,.mx (mxR 3 eQ (a.take i))),(84,84,.rw 3 ((c.take i).map eQ))]) [] [] 1 (by first|exact (by (conv=>whnf);exact ⟨rfl,rfl,rfl⟩)|(rw[ha1 (by omega),hc1 (by omega)];exact (by (conv=>whnf);exact ⟨rfl,rfl,rfl⟩))) (by omega) ?_
   intro i ⟨g1,g2⟩ ih
   have hai2:(a.take i).length=i:=by rw[List.length_take];omega
   have hci2:(c.take i).length=i:=by rw[List.length_take];omega
   by_cases hi:i<j
   ·obtain ⟨f1,f2,f3,f4,f5,f6⟩:=hcf i
    have hsa:=take_snocX (hai i g1 hi)
    have hsc:=take_snocX (hci i hi)
    have hai3:(a.take (i+1)).length=i+1:=by rw[List.length_take];omega
    have hci3:(c.take (i+1)).length=i+1:=by rw[List.length_take];omega
    have hul2:=hul ((i-1:Nat):Int)
    (repeat' (first|(refine CmpP.go (fun hc => ?_) (fun hc => ?_)<;>first|(exfalso;omega)|(conv=>whnf))|(refine AKM.x ?_;conv=>whnf)))
    refine CallR.go (enc:=eQ) j hZ (by simp) ?_
    (conv=>whnf)
    (repeat' (first|(refine CmpP.go (fun hc => ?_) (fun hc => ?_)<;>first|(exfalso;omega)|(conv=>whnf))|(refine Req.go ?_ ?_;omega;conv=>whnf)|(refine OpP.sub ?_ ?_;omega;conv=>whnf)|(refine CallP.go (hO) ?_;conv=>whnf)))
    refine StR.at (enc:=eQ) (i-1) 1 (by omega) rfl (fun _=>rfl) (by simp;omega) ?_
    (conv=>whnf)
    rw[unit_set]
    skip
    refine Req.go (by rw[List.length_map];omega) ?_
    refine AppM.go (r:=unitL j ((i-1:Nat):Int)) (en:=eQ) hai2.symm (by omega) (by omega) ?_
    rw[←hsa,hai3]
    (conv=>whnf)
    (repeat' (first|(refine OpP.add ?_ ?_;omega;conv=>whnf)|(refine RowP.e1 ?_;conv=>whnf)|(refine CallP.go (f1) ?_;conv=>whnf)|(refine CallP.go (f2) ?_;conv=>whnf)|(refine CallP.go (f3) ?_;conv=>whnf)|(refine CallP.go (f4) ?_;conv=>whnf)))
    refine AppR.one (enc:=eQ) (B.getD (i+1) 0-b0*A.getD (i+1) 0) rfl hci2.symm rfl (by omega) (by omega) ?_
    rw[←hsc,hci3]
    (conv=>whnf)
    (repeat' (refine OpP.add ?_ ?_;omega;conv=>whnf))
    exact AKM.back [(65,1000065),(84,1000084)] (by (conv=>whnf);exact ⟨rfl,rfl,rfl⟩) (ih (i+1) (by omega) (by omega))
   obtain rfl:i=j:=by omega
   clear ih
   rw[List.take_of_length_le (Nat.le_of_eq hal),List.take_of_length_le (Nat.le_of_eq hcl)]at *
   (repeat' (first|(refine CmpP.go (fun hc => ?_) (fun hc => ?_)<;>first|(exfalso;omega)|(conv=>whnf))|(refine AKM.x ?_;conv=>whnf)))
   refine SnM.all (fun _=>rfl) rfl hal.symm ?_
   (conv=>whnf)
   refine SnR.all (enc:=eQ) (fun _=>rfl) rfl (hul 0).symm ?_
   (conv=>whnf)
   refine SnR.all (enc:=eQ) (fun _=>rfl) rfl hcl.symm ?_
   (conv=>whnf)
   exact FinP.go rfl hfin
end Go.Eng

namespace Go.Eng
open F
attribute [local irreducible] AKM CmpP Req OpP UnP ConvP RdP LdR StR MkR LenP AppR AppN CpyR RowP SnR Bds SlS CallP CalP FinP pw LdM GetM SetM PutM MkM AppM SnM FlP CallR
set_option maxHeartbeats 16000000
variable {L:Lib}
def trnQ (a:List (List Rat)):List (List Rat):=(List.range a.length).map (colQ a)
theorem trn_at {a:List (List Rat)} {i:Nat} (h:i<a.length):(trnQ a)[i]? = some (colQ a i):=by
 simp only[trnQ,List.getElem?_map,List.getElem?_range h,Option.map_some]
theorem trn_len (a:List (List Rat)):(trnQ a).length=a.length:=by simp [trnQ]
theorem obs_a (B A:List Rat) (n:Nat):(obsQ B A n).a=trnQ (ctlQ B A n).a:=by
 simp only[obsQ,trnQ,ctl_al]
theorem col_at {a:List (List Rat)} {i j:Nat} {r:List Rat} {x:Rat} (hr:a[j]? = some r) (hx:r[i]? = some x):(colQ a i)[j]? = some x:=by
 simp only[colQ,List.getElem?_map,hr,Option.map_some,gD_of hx]
theorem ctl_row {B A:List Rat} {n:Nat} : ∀ r∈(ctlQ B A n).a,r.length=n:=by
 intro r hr
 simp only[ctlQ,List.mem_map]at hr
 obtain ⟨i,_,rfl⟩:=hr
 split
 ·simp
 ·exact unitL_len _ _
theorem eS_obs (B A:List Rat) (n:Nat):eS (obsQ B A n)=[.sl false ((trnQ (ctlQ B A n).a).map fun r=>[AV.sl false (r.map eQ)]),.sl false ((ctlQ B A n).c.map eQ),.sl false ((ctlQ B A n).b.map eQ)]++eQ (ctlQ B A n).d:=by
 rw[←obs_a];rfl
theorem LdM.got {R:List (Option (Nat × List (List AV)))} {e:Nat} {r:Option (Nat × List (List AV))} {K:Option (Nat × List (List AV))→Prop} (h:R[e]? = some r) (hk:K r):LdM R e K:=by
 unfold LdM
 exact ⟨r,h,hk⟩
theorem ev_Observer (N:StGLib L) (B A:List Rat) (n k:Nat) (hB:trimQ B=B) (hA:trimQ A=A) (bB:Bs k B) (bA:Bs k A) (lB:B.length≤17) (lA:A.length≤17) (h0:A[0]? = some 1) (hn:max (B.length-1) (A.length-1)=n) (hk:k≤1000000) :
  Ev L 208 [.agg [.sl false (B.map eQ),.sl false (A.map eQ)]] (.tup [.agg (eS (obsQ B A n)),.int .i64 0]):=by
 have hC:=ev_Controller N false false B A n k hB hA bB bA lB lA h0 hn hk
 have hfin:=cl_eSt (obsQ B A n) 0
 rw[eS_obs]at hfin ⊢
 have hal:=ctl_al B A n
 have har:=ctl_row (B:=B) (A:=A) (n:=n)
 generalize ctlQ B A n=S at *
 have hat : ∀ i,i<n→(trnQ S.a)[i]? = some (colQ S.a i):=fun i h=>trn_at (by omega)
 have htl:=trn_len S.a
 have hcol : ∀ i,(colQ S.a i).length=n:=fun i=>by simp [colQ,hal]
 have hx : ∀ i j,i<n→j<n → ∃ r x,S.a[j]? = some r∧r[i]? = some x∧(colQ S.a i)[j]? = some x:=fun i j h1 h2=>by
  obtain ⟨r,hr⟩ : ∃ r,S.a[j]? = some r:=⟨_,List.getElem?_eq_getElem (by omega)⟩
  have hrl:=har r (List.mem_of_getElem? hr)
  obtain ⟨x,hx⟩ : ∃ x,r[i]? = some x:=⟨_,List.getElem?_eq_getElem (by omega)⟩
  exact ⟨r,x,hr,hx,col_at hr hx⟩
 generalize hT:trnQ S.a=T at *
 refine Ev.x N.statespace_Observer rfl rfl ?_
 (repeat' (first|(refine CmpP.go (fun hc => ?_) (fun hc => ?_)<;>first|(exfalso;omega)|(conv=>whnf))|(refine LenP.go ?_;conv=>whnf)|(refine AKM.x ?_;conv=>whnf)|(refine CallP.go (hC) ?_;conv=>whnf)))
 unfold MkM
 refine ⟨⟨by omega,by omega,by simp only[roomMax];omega,by omega⟩,?_⟩
 rw[Int.toNat_natCast,hal]
 (conv=>whnf)
 skip
 refine AKM.loop1 (fun i=>n-i) (fun (i:Nat)=>i≤n) (fun i=>[(25,.int .i64 i)]) (fun i=>[(23,23,.mx (mz T n i))]) [] [] 0 (by first|exact (by (conv=>whnf);exact ⟨rfl,rfl,rfl⟩)|(rw[←mz_zero T];exact (by (conv=>whnf);exact ⟨rfl,rfl,rfl⟩))) (by omega) ?_
 intro i p1 ih
 have hzl:=mz_len (Q:=T) p1
 by_cases hi:i<n
 ·have hst:=mz_set (hat i hi) hi
  have hci:=hcol i
  generalize mz T n i=R0 at *
  (repeat' (first|(refine CmpP.go (fun hc => ?_) (fun hc => ?_)<;>first|(exfalso;omega)|(conv=>whnf))|(refine AKM.x ?_;conv=>whnf)))
  refine MkR.go (enc:=eO) none n rfl (by omega) (by omega) ?_
  (conv=>whnf)
  (repeat' (first|(refine Req.go ?_ ?_;omega;conv=>whnf)|fail))
  refine Req.go (by simp) ?_
  refine SetM.fz (i:=i) (by omega) (by omega) ?_
  (conv=>whnf)
  skip
  refine AKM.loop1 (fun j=>n-j) (fun (j:Nat)=>j≤n) (fun j=>[(34,.int .i64 j)]) (fun j=>[(23,23,.mx (R0.set i (some (3,(fillO ((colQ S.a i).take j) n).map eO))))]) [] [] 0 (by first|exact (by (conv=>whnf);exact ⟨rfl,rfl,rfl⟩)|(rw[List.take_zero,←fillO_nil];exact (by (conv=>whnf);exact ⟨rfl,rfl,rfl⟩))) (by omega) ?_
  intro j r2 jh
  have htj:((colQ S.a i).take j).length=j:=by rw[List.length_take];omega
  have hlf:=fillO_len (l:=(colQ S.a i).take j) (m:=n) (by omega)
  by_cases hj:j<n
  ·obtain ⟨r,x,e1,e2,e3⟩:=hx i j hi hj
   have e1':S.a[(j:Int).toNat]? = some r:=e1
   have e2':r[(i:Int).toNat]? = some x:=e2
   have hrl:=har r (List.mem_of_getElem? e1)
   have hs:=fillO_set (l:=(colQ S.a i).take j) (m:=n) (x:=x) (by omega)
   rw[htj,←take_snocX e3]at hs
   generalize fillO ((colQ S.a i).take j) n=W at *
   (repeat' (first|(refine CmpP.go (fun hc => ?_) (fun hc => ?_)<;>first|(exfalso;omega)|(conv=>whnf))|(refine Req.go ?_ ?_;omega;conv=>whnf)|(refine AKM.x ?_;conv=>whnf)))
   refine LdM.st (by omega) (by omega) ?_
   (conv=>whnf)
   (repeat' (refine RdP.at (by assumption) ?_ rfl ?_;omega;conv=>whnf))
   refine Req.go (by rw[List.length_map];omega) ?_
   (conv=>whnf)
   skip
   refine GetM.st (by omega) (by omega) ?_
   (conv=>whnf)
   refine StR.nat (enc:=eO) (some x) rfl (fun e=>by cases e<;>rfl) (by omega) ?_
   (conv=>whnf)
   rw[hs]
   refine PutM.st (by omega) (by rw[List.length_map,List.length_map,←hs,List.length_set]) ?_
   (conv=>whnf)
   (repeat' (refine OpP.add ?_ ?_;omega;conv=>whnf))
   exact AKM.back [] (by (conv=>whnf);exact ⟨rfl,rfl,rfl⟩) (jh (j+1) (by omega) (by omega))
  obtain rfl:j=n:=by omega
  clear jh
  rw[List.take_of_length_le (by omega),fillO_full (by omega),hst]
  (repeat' (first|(refine CmpP.go (fun hc => ?_) (fun hc => ?_)<;>first|(exfalso;omega)|(conv=>whnf))|(refine OpP.add ?_ ?_;omega;conv=>whnf)|(refine AKM.x ?_;conv=>whnf)))
  exact AKM.back [] (by (conv=>whnf);exact ⟨rfl,rfl,rfl⟩) (ih (i+1) (by omega) (by omega))
 obtain rfl:i=n:=by omega
 clear ih
 rw[mz_full (by omega)]
 (repeat' (first|(refine CmpP.go (fun hc => ?_) (fun hc => ?_)<;>first|(exfalso;omega)|(conv=>whnf))|(refine AKM.x ?_;conv=>whnf)))
 refine SnM.all (fun _=>rfl) rfl (by omega) ?_
 (conv=>whnf)
 exact FinP.go rfl hfin
theorem ev_transposed (N:StGLib L) (q:Bool) (a:List (List Rat)) (n:Nat) (hal:a.length=n) (har : ∀ r∈a,r.length=n) (hn:n≤65536):Ev L 212 [.sl q (a.map fun r=>[AV.sl false (r.map eQ)])] (.sl false ((trnQ a).map fun r=>[AV.sl false (r.map eQ)])):=by
 have hat : ∀ i,i<n→(trnQ a)[i]? = some (colQ a i):=fun i h=>trn_at (by omega)
 have htl:=trn_len a
 have hcol : ∀ i,(colQ a i).length=n:=fun i=>by simp [colQ,hal]
 have hx : ∀ i j,i<n→j<n → ∃ r x,a[j]? = some r∧r[i]? = some x∧(colQ a i)[j]? = some x:=fun i j h1 h2=>by
  obtain ⟨r,hr⟩ : ∃ r,a[j]? = some r:=⟨_,List.getElem?_eq_getElem (by omega)⟩
  have hrl:=har r (List.mem_of_getElem? hr)
  obtain ⟨x,hx⟩ : ∃ x,r[i]? = some x:=⟨_,List.getElem?_eq_getElem (by omega)⟩
  exact ⟨r,x,hr,hx,col_at hr hx⟩
 generalize hT:trnQ a=T at *
 refine Ev.x N.ref27_transposed rfl rfl ?_
 (repeat' (first|(refine LenP.go ?_;conv=>whnf)|(refine AKM.x ?_;conv=>whnf)))
 unfold MkM
 refine ⟨⟨by omega,by omega,by simp only[roomMax];omega,by omega⟩,?_⟩
 rw[Int.toNat_natCast,hal]
 (conv=>whnf)
 skip
 refine AKM.loop1 (fun i=>n-i) (fun (i:Nat)=>i≤n) (fun i=>[(4,.int .i64 i)]) (fun i=>[(8,8,.mx (mz T n i))]) [] [] 0 (by first|exact (by (conv=>whnf);exact ⟨rfl,rfl,rfl⟩)|(rw[←mz_zero T];exact (by (conv=>whnf);exact ⟨rfl,rfl,rfl⟩))) (by omega) ?_
 intro i p1 ih
 have hzl:=mz_len (Q:=T) p1
 by_cases hi:i<n
 ·have hst:=mz_set (hat i hi) hi
  have hci:=hcol i
  have hnone:(mz T n i)[i]? = some none:=by
   have hl:(mxR 3 eQ (T.take i)).length=i:=by simp only[mxR,List.length_map,List.length_take];omega
   have:=fz_at (z:=(none:Option (Nat × List (List AV)))) (l:=mxR 3 eQ (T.take i)) (m:=n) (by omega)
   rw[hl]at this
   exact this
  obtain ⟨r,x,e1,e2,e3⟩:=hx i 0 hi (by omega)
  have e1':a[(0:Int).toNat]? = some r:=e1
  have e2':r[(i:Int).toNat]? = some x:=e2
  have hrl:=har r (List.mem_of_getElem? e1)
  have hc1:(colQ a i).take 1=[x]:=by rw[List.take_add_one,e3];rfl
  generalize mz T n i=R0 at *
  (repeat' (first|(refine CmpP.go (fun hc => ?_) (fun hc => ?_)<;>first|(exfalso;omega)|(conv=>whnf))|(refine LenP.go ?_;conv=>whnf)|(refine AKM.x ?_;conv=>whnf)))
  refine AKM.lp ?_
  (repeat' (first|(refine CmpP.go (fun hc => ?_) (fun hc => ?_)<;>first|(exfalso;omega)|(conv=>whnf))|(refine Req.go ?_ ?_;omega;conv=>whnf)|(refine LenP.go ?_;conv=>whnf)|(refine AKM.x ?_;conv=>whnf)))
  refine LdM.got (r:=none) (by rw[Nat.zero_add,Int.toNat_natCast];exact hnone) ?_
  (conv=>whnf)
  (repeat' (first|(refine RdP.at (by assumption) ?_ rfl ?_;omega;conv=>whnf)|(refine RowP.e1 ?_;conv=>whnf)))
  refine AppN.one (enc:=eQ) x rfl rfl (by omega) ?_
  (conv=>whnf)
  (repeat' (first|(refine Req.go ?_ ?_;omega;conv=>whnf)|fail))
  refine Req.go rfl ?_
  refine SetM.fz (i:=i) (by omega) (by omega) ?_
  (conv=>whnf)
  (repeat' (refine OpP.add ?_ ?_;omega;conv=>whnf))
  refine AKM.loop1 (fun j=>n-j) (fun (j:Nat)=>1≤j∧j≤n) (fun j=>[(5,.int .i64 j)]) (fun j=>[(8,8,.mx (R0.set i (some (3,((colQ a i).take j).map eQ))))]) [] [] 1 (by first|exact (by (conv=>whnf);exact ⟨rfl,rfl,rfl⟩)|(rw[hc1];exact (by (conv=>whnf);exact ⟨rfl,rfl,rfl⟩))) (by omega) ?_
  intro j ⟨r1,r2⟩ jh
  have htj:((colQ a i).take j).length=j:=by rw[List.length_take];omega
  by_cases hj:j<n
  ·obtain ⟨r,x,e1,e2,e3⟩:=hx i j hi hj
   have e1':a[(j:Int).toNat]? = some r:=e1
   have e2':r[(i:Int).toNat]? = some x:=e2
   have hrl:=har r (List.mem_of_getElem? e1)
   have hs:=take_snocX e3
   have htj1:((colQ a i).take (j+1)).length=j+1:=by rw[List.length_take];omega
   generalize (colQ a i).take j=W at *
   (repeat' (first|(refine CmpP.go (fun hc => ?_) (fun hc => ?_)<;>first|(exfalso;omega)|(conv=>whnf))|(refine Req.go ?_ ?_;omega;conv=>whnf)|(refine LenP.go ?_;conv=>whnf)|(refine AKM.x ?_;conv=>whnf)))
   refine LdM.st (by omega) (by omega) ?_
   (conv=>whnf)
   (repeat' (first|(refine RdP.at (by assumption) ?_ rfl ?_;omega;conv=>whnf)|(refine RowP.e1 ?_;conv=>whnf)))
   refine GetM.st (by omega) (by omega) ?_
   (conv=>whnf)
   refine AppR.one (enc:=eQ) x rfl (by rw[List.length_map]) rfl (by omega) (by omega) ?_
   intro s' v
   rw[←hs,htj1]
   (conv=>whnf)
   (repeat' (first|(refine Req.go ?_ ?_;omega;conv=>whnf)|fail))
   refine Req.go ⟨rfl,by rw[List.length_map];omega⟩ ?_
   refine SetM.fz (i:=i) (by omega) (by rw[List.length_set,List.length_set];omega) ?_
   rw[show 0+((i:Int)).toNat=i by omega,List.set_set,List.set_set]
   (conv=>whnf)
   (repeat' (refine OpP.add ?_ ?_;omega;conv=>whnf))
   exact AKM.back [] (by (conv=>whnf);exact ⟨rfl,rfl,rfl⟩) (jh (j+1) (by omega) (by omega))
  obtain rfl:j=n:=by omega
  clear jh
  rw[List.take_of_length_le (by omega),hst]
  (repeat' (first|(refine CmpP.go (fun hc => ?_) (fun hc => ?_)<;>first|(exfalso;omega)|(conv=>whnf))|(refine OpP.add ?_ ?_;omega;conv=>whnf)|(refine LenP.go ?_;conv=>whnf)|(refine AKM.x ?_;conv=>whnf)))
  exact AKM.back [] (by (conv=>whnf);exact ⟨rfl,rfl,rfl⟩) (ih (i+1) (by omega) (by omega))
 obtain rfl:i=n:=by omega
 clear ih
 rw[mz_full (by omega)]
 (repeat' (first|(refine CmpP.go (fun hc => ?_) (fun hc => ?_)<;>first|(exfalso;omega)|(conv=>whnf))|(refine LenP.go ?_;conv=>whnf)|(refine AKM.x ?_;conv=>whnf)))
 refine SnM.all (fun _=>rfl) rfl (by omega) ?_
 (conv=>whnf)
 exact FinP.go rfl (by
  have:=cl_eS ⟨T,[],[],0⟩
  simp only[Clean,CleanL,true_and,and_true]at this ⊢
  have h2:=this.1
  simp only[Clean,true_and]at h2
  exact h2)
theorem ev_Observer27 (N:StGLib L) (B A:List Rat) (n k:Nat) (hB:trimQ B=B) (hA:trimQ A=A) (bB:Bs k B) (bA:Bs k A) (lB:B.length≤17) (lA:A.length≤17) (h0:A[0]? = some 1) (hn:max (B.length-1) (A.length-1)=n) (hk:k≤1000000) :
  Ev L 213 [.agg [.sl false (B.map eQ),.sl false (A.map eQ)]] (.tup [.agg (eS (obsQ B A n)),.int .i64 0]):=by
 have hC:=ev_Controller27 N B A n k hB hA bB bA lB lA h0 hn hk
 have hT:=fun q=>ev_transposed N q (ctlQ B A n).a n (ctl_al B A n) ctl_row (by omega)
 have hfin:=cl_eSt (obsQ B A n) 0
 rw[eS_obs]at hfin ⊢
 generalize ctlQ B A n=S at *
 refine Ev.x N.ref27_Observer rfl rfl ?_
 (repeat' (first|(refine CmpP.go (fun hc => ?_) (fun hc => ?_)<;>first|(exfalso;omega)|(conv=>whnf))|(refine AKM.x ?_;conv=>whnf)|(refine CallP.go (hC) ?_;conv=>whnf)|(refine CallP.go (hT _) ?_;conv=>whnf)))
 exact FinP.go rfl hfin
end Go.Eng

namespace Go.Eng
open F
attribute [local irreducible] AKM CmpP Req OpP UnP ConvP RdP LdR StR MkR LenP AppR AppN CpyR RowP SnR Bds SlS CallP CalP FinP pw LdM GetM SetM PutM MkM AppM SnM FlP CallR
set_option maxHeartbeats 1000000
variable {L:Lib} (n:Nt)
end Go.Eng

namespace Go.Eng
open F
attribute [local irreducible] AKM CmpP Req OpP UnP ConvP RdP LdR StR MkR LenP AppR AppN CpyR RowP SnR Bds SlS CallP CalP FinP pw LdM GetM SetM PutM MkM AppM SnM FlP CallR
set_option maxHeartbeats 1000000
variable {L:Lib}
end Go.Eng

namespace Go.Eng
open F
attribute [local irreducible] AKM CmpP Req OpP UnP ConvP RdP LdR StR MkR LenP AppR AppN CpyR RowP SnR Bds SlS CallP CalP FinP pw LdM GetM SetM PutM MkM AppM SnM FlP CallR
set_option maxHeartbeats 1000000
variable {L:Lib}
end Go.Eng

namespace Go.Eng
open F
attribute [local irreducible] AKM CmpP Req OpP UnP ConvP RdP LdR StR MkR LenP AppR AppN CpyR RowP SnR Bds SlS CallP CalP FinP pw LdM GetM SetM PutM MkM AppM SnM FlP CallR
set_option maxHeartbeats 1000000
variable {L:Lib}
end Go.Eng

namespace Go.Eng
open F
attribute [local irreducible] AKM CmpP Req OpP UnP ConvP RdP LdR StR MkR LenP AppR AppN CpyR RowP SnR Bds SlS CallP CalP FinP pw LdM GetM SetM PutM MkM AppM SnM FlP CallR
set_option maxHeartbeats 1000000
variable {L:Lib}
end Go.Eng

namespace Go.Eng
open F
attribute [local irreducible] AKM CmpP Req OpP UnP ConvP RdP LdR StR MkR LenP AppR AppN CpyR RowP SnR Bds SlS CallP CalP FinP pw LdM GetM SetM PutM MkM AppM SnM FlP CallR
set_option maxHeartbeats 4000000
variable {L:Lib}
end Go.Eng

namespace Go.Eng
open F
attribute [local irreducible] AKM CmpP Req OpP UnP ConvP RdP LdR StR MkR LenP AppR AppN CpyR RowP SnR Bds SlS CallP CalP FinP pw LdM GetM SetM PutM MkM AppM SnM FlP CallR
set_option maxHeartbeats 8000000
variable {L:Lib}
theorem ev_SameFilters (N:BldGLib L) (p r:List Rat) (k:Nat) (hp:Bs k p) (hr:Bs k r) (hk:k<2199023255552) (hn:p.length≤1000000) (hm:r.length≤1000000):Ev L 176 [.agg [.sl false (p.map eQ),.sl false (r.map eQ)],.agg [.sl false (p.map eQ),.sl false (r.map eQ)]] (.bool true):=by
 have hP:=fun q1 q2=>ev_r5_Same N.toR05GLib q1 q2 p k hp hk hn
 have hR:=fun q1 q2=>ev_r5_Same N.toR05GLib q1 q2 r k hr hk hm
 refine Ev.x N.ref22_SameFilters rfl rfl ?_
 (repeat' (first|(refine AKM.x ?_;conv=>whnf)|(refine CallP.go (hP _ _) ?_;conv=>whnf)|(refine CallP.go (hR _ _) ?_;conv=>whnf)))
 exact FinP.b rfl
end Go.Eng

namespace Go.Eng
open F
attribute [local irreducible] AKM CmpP Req OpP UnP ConvP RdP LdR StR MkR LenP AppR AppN CpyR RowP SnR Bds SlS CallP CalP FinP pw LdM GetM SetM PutM MkM AppM SnM FlP CallR
set_option maxHeartbeats 4000000
variable {L:Lib}
def ratV (v:Int):Rat:=Rat.divInt (v%25-12) (1+v/25%8)
def ratsL (l:List Int) (n:Nat):List Rat:=(List.range n).map fun i:Nat=>ratV (withS (atS l (i:Int)) 2000)
theorem ratsL_len (l:List Int) (n:Nat):(ratsL l n).length=n:=by simp [ratsL]
theorem ratsL_succ (l:List Int) (n:Nat):ratsL l (n+1)=ratsL l n++[ratV (withS (atS l (n:Int)) 2000)]:=by simp [ratsL,List.range_succ]
theorem ratV_bt {v:Int} (h:0≤v):Bt 4 (ratV v):=by
 unfold ratV
 obtain ⟨d,hd⟩:=Int.eq_ofNat_of_zero_le (show 0≤1+v/25%8 by omega)
 rw[hd,Rat.divInt_ofNat]
 refine Bt.mk ?_ ?_
 ·show _≤16;omega
 ·show _≤16;omega
theorem ratsL_bs (l:List Int) (n:Nat):Bs 4 (ratsL l n):=by
 intro x hx
 simp only[ratsL,List.mem_map]at hx
 obtain ⟨i,_,rfl⟩:=hx
 refine ratV_bt ?_
 unfold withS
 split<;>omega
theorem ev_Rats (N:RatsGLib L) (l:List Int) (q:Bool) (n:Nat) (hl : ∀ x∈l,InI x) (hn:n≤1000000):Ev L 141 [.sl q (l.map encInt),.int .i64 (n:Int)] (.sl false ((ratsL l n).map eQ)):=by
 have hat : ∀ i:Nat,InI (atS l (i:Int)):=fun i=>by
  unfold atS
  split
  ·rw[List.getD_eq_getElem?_getD]
   cases e:l[((i:Int)).toNat]? with
   | none=>simp [InI]
   | some x=>exact hl x (List.mem_of_getElem? e)
  ·simp [InI]
 refine Ev.x N.world_Rats rfl rfl ?_
 (repeat' (refine AKM.x ?_;conv=>whnf))
 refine AKM.loop1 (fun i=>n-i) (fun (i:Nat)=>i≤n) (fun i=>[(6,.int .i64 i),(5,.row 5 0 3 0 i)]) (fun i=>[(5,5,.rw 3 ((ratsL l i).map eQ))]) [] [] 0 (by (conv=>whnf);exact ⟨rfl,rfl,rfl⟩) (by omega) ?_
 intro i p1 ih
 by_cases hi:i<n
 ·have hA:=ev_world_At N.toWorldLib l q (i:Int)
  have hA':=fun q=>ev_world_At N.toWorldLib l q (i:Int)
  have hW:=ev_world_Within N.toWorldLib (atS l (i:Int)) 2000 (hat i) (by omega)
  have hw0:0≤withS (atS l (i:Int)) 2000∧withS (atS l (i:Int)) 2000<2000:=by unfold withS;split<;>omega
  have hsucc:=ratsL_succ l i
  have hlen:=ratsL_len l i
  have hF:=ev_r3_Frac N.toRefGLib (withS (atS l (i:Int)) 2000%25-12) (1+withS (atS l (i:Int)) 2000/25%8) (by omega) (by omega)
  have hF':Ev L 125 [.int .i64 (withS (atS l (i:Int)) 2000%25-12),.int .i64 (1+withS (atS l (i:Int)) 2000/25%8)] (.agg (eQ (ratV (withS (atS l (i:Int)) 2000)))):=hF
  clear hF
  generalize ratV (withS (atS l (i:Int)) 2000)=y at *
  generalize withS (atS l (i:Int)) 2000=v at *
  (repeat' (first|(refine CmpP.go (fun hc => ?_) (fun hc => ?_)<;>first|(exfalso;omega)|(conv=>whnf))|(refine OpP.add ?_ ?_;omega;conv=>whnf)|(refine OpP.sub ?_ ?_;omega;conv=>whnf)|(refine OpP.rem ?_ (fun _ _ _ => ?_) (fun _ _ _ _ => ?_);omega;all_goals first|(exfalso;omega)|(conv=>whnf))|(refine OpP.quo ?_ ?_ (fun _ => ?_) (fun _ _ => ?_);omega;omega;all_goals first|(exfalso;omega)|(conv=>whnf))|(refine RowP.e1 ?_;conv=>whnf)|(refine AKM.x ?_;conv=>whnf)|(refine CallP.go (hA' _) ?_;conv=>whnf)|(refine CallP.go (hW) ?_;conv=>whnf)|(refine CallP.go (hF') ?_;conv=>whnf)))
  refine AppR.one (enc:=eQ) y rfl hlen.symm rfl (by omega) (by omega) ?_
  (conv=>whnf)
  (repeat' (refine OpP.add ?_ ?_;omega;conv=>whnf))
  rw[show (ratsL l i++[y]).length=i+1 by simp [hlen],←hsucc]
  exact AKM.back [(5,27)] (by (conv=>whnf);exact ⟨rfl,rfl,rfl⟩) (ih (i+1) (by omega) (by omega))
 ·obtain rfl:i=n:=by omega
  clear ih
  have hlen:=ratsL_len l i
  (repeat' (first|(refine CmpP.go (fun hc => ?_) (fun hc => ?_)<;>first|(exfalso;omega)|(conv=>whnf))|(refine AKM.x ?_;conv=>whnf)))
  refine SnR.all (enc:=eQ) (fun _=>rfl) rfl hlen.symm ?_
  (conv=>whnf)
  exact FinP.go rfl (by simp only[Clean,true_and];exact cl_eQs _)
end Go.Eng
