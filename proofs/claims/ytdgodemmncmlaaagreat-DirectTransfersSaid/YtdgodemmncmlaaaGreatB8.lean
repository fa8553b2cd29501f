/-
  Transfer functions of systems, plain: the method of Faddeev and Le Verrier.
-/
import Derived.Test.YtdgodemmncmlaaaGreatB7
import Derived.Test.YtdgodemmncmlaaaGreatB4
import Derived.Test.YtdgodemmncmlaaaGreatB5
set_option linter.unusedSimpArgs false
set_option linter.unusedVariables false
set_option linter.unnecessarySimpa false
namespace Go.Eng
def colQ (m:List (List Rat)) (j:Nat):List Rat:=m.map fun r=>r.getD j 0
def mulRow (r:List Rat) (m:List (List Rat)) (n:Nat):List Rat:=(List.range n).map fun j=>dotQ r (colQ m j)
def mulQ (a m:List (List Rat)) (n:Nat):List (List Rat):=a.map fun r=>mulRow r m n
def trQ (m:List (List Rat)):Nat→Rat
 | 0=>0
 | i+1=>trQ m i+(m.getD i []).getD i 0
def addD (m:List (List Rat)) (c:Rat) (i:Nat):List (List Rat):=(List.range m.length).map fun r=>if r<i then (m.getD r []).set r ((m.getD r []).getD r 0+c) else m.getD r []
def idQ (n:Nat):List (List Rat):=(List.range n).map fun i:Nat=>unitL n i
def cofOf (p:List (List Rat)) (n k:Nat):Rat:=trQ p n*Rat.divInt (-1) (k:Int)
def flM (a:List (List Rat)) (n:Nat):Nat→List (List Rat)
 | 0=>idQ n
 | k+1=>addD (mulQ a (flM a n k) n) (cofOf (mulQ a (flM a n k) n) n (k+1)) n
def cofQ (a:List (List Rat)) (n k:Nat):Rat:=cofOf (mulQ a (flM a n k) n) n (k+1)
def belowQ (a:List (List Rat)) (n k:Nat):List Rat:=1::(List.range k).map (cofQ a n)
def mvQ (m:List (List Rat)) (b:List Rat):List Rat:=m.map fun r=>dotQ r b
def aboveQ (S:SysQ) (n k:Nat):List Rat:=0::(List.range k).map fun i=>dotQ S.c (mvQ (flM S.a n i) S.b)
theorem colQ_len (m:List (List Rat)) (j:Nat):(colQ m j).length=m.length:=by simp [colQ]
theorem mulRow_len (r:List Rat) (m:List (List Rat)) (n:Nat):(mulRow r m n).length=n:=by simp [mulRow]
theorem mulQ_len (a m:List (List Rat)) (n:Nat):(mulQ a m n).length=a.length:=by simp [mulQ]
theorem addD_len (m:List (List Rat)) (c:Rat) (i:Nat):(addD m c i).length=m.length:=by simp [addD]
theorem mvQ_len (m:List (List Rat)) (b:List Rat):(mvQ m b).length=m.length:=by simp [mvQ]
theorem belowQ_len (a:List (List Rat)) (n k:Nat):(belowQ a n k).length=k+1:=by simp [belowQ]
theorem aboveQ_len (S:SysQ) (n k:Nat):(aboveQ S n k).length=k+1:=by simp [aboveQ]
theorem belowQ_succ (a:List (List Rat)) (n k:Nat):belowQ a n (k+1)=belowQ a n k++[cofQ a n k]:=by simp [belowQ,List.range_succ]
theorem aboveQ_succ (S:SysQ) (n k:Nat):aboveQ S n (k+1)=aboveQ S n k++[dotQ S.c (mvQ (flM S.a n k) S.b)]:=by simp [aboveQ,List.range_succ]
structure Sq (n:Nat) (m:List (List Rat)):Prop where
 l:m.length=n
 r : ∀ r∈m,r.length=n
theorem Sq.at {n:Nat} {m:List (List Rat)} (h:Sq n m) {i:Nat} {r:List Rat} (hr:m[i]? = some r):r.length=n:=h.r r (List.mem_of_getElem? hr)
theorem Sq.mul {n:Nat} {a:List (List Rat)} (h:a.length=n) (m:List (List Rat)):Sq n (mulQ a m n):=by
 refine ⟨by rw[mulQ_len,h],fun r hr => ?_⟩
 obtain ⟨x,_,rfl⟩:=List.mem_map.1 hr
 exact mulRow_len _ _ _
theorem addD_at {m:List (List Rat)} {c:Rat} {i r:Nat} {row:List Rat} (h:m[r]? = some row):(addD m c i)[r]? = some (if r<i then row.set r (row.getD r 0+c) else row):=by
 have h1:=(List.getElem?_eq_some_iff.1 h).1
 have e:m.getD r []=row:=by rw[List.getD_eq_getElem?_getD,h];rfl
 simp only[addD,List.getElem?_map,List.getElem?_range h1,Option.map_some,e]
theorem Sq.addD {n:Nat} {m:List (List Rat)} (h:Sq n m) (c:Rat) (i:Nat):Sq n (addD m c i):=by
 refine ⟨by rw[addD_len,h.l],fun r hr => ?_⟩
 obtain ⟨j,hj⟩:=List.getElem?_of_mem hr
 have h1:=(List.getElem?_eq_some_iff.1 hj).1
 rw[addD_len]at h1
 obtain ⟨row,hrow⟩ : ∃ row,m[j]? = some row:=⟨_,List.getElem?_eq_getElem h1⟩
 rw[addD_at hrow]at hj
 obtain rfl:=Option.some.inj hj
 have:=h.at hrow
 split
 ·rw[List.length_set];exact this
 ·exact this
theorem addD_zero (m:List (List Rat)) (c:Rat):addD m c 0=m:=by
 refine List.ext_getElem? fun r => ?_
 cases e:m[r]? with
 | none=>rw[List.getElem?_eq_none (by rw[addD_len];exact List.getElem?_eq_none_iff.1 e)]
 | some row=>rw[addD_at e,if_neg (by omega)]
theorem addD_succ {m:List (List Rat)} {c:Rat} {i:Nat} {row:List Rat} (h:m[i]? = some row):addD m c (i+1)=(addD m c i).set i (row.set i (row.getD i 0+c)):=by
 refine List.ext_getElem? fun r => ?_
 rw[List.getElem?_set]
 cases e:m[r]? with
 | none =>
  have h1:=List.getElem?_eq_none_iff.1 e
  have h2:=(List.getElem?_eq_some_iff.1 h).1
  rw[List.getElem?_eq_none (by rw[addD_len];exact h1),if_neg (by omega),List.getElem?_eq_none (by rw[addD_len];exact h1)]
 | some rw' =>
  rw[addD_at e,addD_at e]
  by_cases hi:i=r
  ·subst hi
   obtain rfl:=Option.some.inj (h.symm.trans e)
   have h2:=(List.getElem?_eq_some_iff.1 h).1
   rw[if_pos (by omega),if_pos rfl,if_pos (by rw[addD_len];exact h2)]
  ·rw[if_neg hi]
   by_cases h3:r<i
   ·rw[if_pos (by omega),if_pos h3]
   ·rw[if_neg (by omega),if_neg h3]
theorem addD_next {m:List (List Rat)} {c:Rat} {i:Nat} {row:List Rat} (h:m[i]? = some row):(addD m c i)[i]? = some row:=by rw[addD_at h,if_neg (by omega)]
theorem Sq.id (n:Nat):Sq n (idQ n):=by
 refine ⟨by simp [idQ],fun r hr => ?_⟩
 obtain ⟨i,_,rfl⟩:=List.mem_map.1 hr
 exact unitL_len _ _
theorem Sq.fl {n:Nat} {a:List (List Rat)} (h:a.length=n) : ∀ k,Sq n (flM a n k)
 | 0=>Sq.id n
 | k+1=>(Sq.mul h _).addD _ _
def Ms (k:Nat) (m:List (List Rat)):Prop := ∀ r∈m,Bs k r
theorem Ms.at {k:Nat} {m:List (List Rat)} (h:Ms k m) {i:Nat} {r:List Rat} (hr:m[i]? = some r):Bs k r:=h r (List.mem_of_getElem? hr)
theorem Ms.getD {k:Nat} {m:List (List Rat)} (h:Ms k m) (i j:Nat):Bt k ((m.getD i []).getD j 0):=by
 rw[List.getD_eq_getElem?_getD,List.getD_eq_getElem?_getD]
 cases e:m[i]? with
 | none=>exact Bt.zero k
 | some r =>
  simp only[Option.getD_some]
  cases e2:r[j]? with
  | none=>exact Bt.zero k
  | some x=>exact (h.at e).at e2
theorem Ms.le {k j:Nat} {m:List (List Rat)} (h:Ms k m) (hj:k≤j):Ms j m:=fun r hr=>(h r hr).le hj
theorem Ms.col {k:Nat} {m:List (List Rat)} (h:Ms k m) (j:Nat):Bs k (colQ m j):=by
 intro x hx
 obtain ⟨r,hr,rfl⟩:=List.mem_map.1 hx
 rw[List.getD_eq_getElem?_getD]
 cases e:r[j]? with
 | none=>exact Bt.zero k
 | some x=>exact (h r hr).at e
theorem Ms.mul {n k s:Nat} {a m:List (List Rat)} (ha:Ms k a) (hs:Sq n a) (hm:Ms s m):Ms (n*(k+s+1)) (mulQ a m n):=by
 intro r hr x hx
 obtain ⟨r,h1,rfl⟩:=List.mem_map.1 hr
 obtain ⟨j,_,rfl⟩:=List.mem_map.1 hx
 have:=(ha r h1).dot (hm.col j)
 rw[hs.r r h1]at this
 exact this
theorem Ms.tr {k:Nat} {m:List (List Rat)} (h:Ms k m) : ∀ i,Bt (i*(k+1)) (trQ m i)
 | 0=>Bt.zero _
 | i+1=>by
  refine ((Ms.tr h i).add (h.getD i i)).le ?_
  rw[Nat.succ_mul];omega
theorem Ms.addD {k j:Nat} {m:List (List Rat)} (h:Ms k m) {c:Rat} (hc:Bt j c) (i:Nat):Ms (k+j+1) (addD m c i):=by
 intro r hr
 obtain ⟨q,hq⟩:=List.getElem?_of_mem hr
 have h1:=(List.getElem?_eq_some_iff.1 hq).1
 rw[addD_len]at h1
 obtain ⟨row,hrow⟩ : ∃ row,m[q]? = some row:=⟨_,List.getElem?_eq_getElem h1⟩
 rw[addD_at hrow]at hq
 obtain rfl:=Option.some.inj hq
 have hb:=h.at hrow
 split
 ·intro x hx
  rcases List.mem_or_eq_of_mem_set hx with hx|rfl
  ·exact (hb x hx).le (by omega)
  ·refine Bt.add ?_ hc
   rw[List.getD_eq_getElem?_getD]
   cases e:row[q]? with
   | none=>exact Bt.zero k
   | some x=>exact hb.at e
 ·exact hb.le (by omega)
theorem Ms.id (n k:Nat):Ms k (idQ n):=by
 intro r hr x hx
 obtain ⟨i,_,rfl⟩:=List.mem_map.1 hr
 simp only[unitL,List.mem_map]at hx
 obtain ⟨a,_,rfl⟩:=hx
 split
 ·exact Bt.one k
 ·exact Bt.zero k
theorem bt_inv {k:Nat} (hk:k≤7):Bt 3 (Rat.divInt (-1) (k:Int)):=by
 rw[Rat.divInt_ofNat]
 refine Bt.mk ?_ ?_
 ·decide
 ·show k≤8;omega
def flK:Nat→Nat
 | 0=>0
 | k+1=>20*flK k+1700
theorem Ms.fl {n:Nat} {a:List (List Rat)} (hs:Sq n a) (ha:Ms 80 a) (hn:n≤4) : ∀ k,k≤4→Ms (flK k) (flM a n k)∧Ms (4*(flK k+81)) (mulQ a (flM a n k) n)∧Bt (16*(flK k+81)+10) (cofQ a n k):=by
 have key : ∀ k,k≤4→Ms (flK k) (flM a n k)→Ms (4*(flK k+81)) (mulQ a (flM a n k) n)∧Bt (16*(flK k+81)+10) (cofQ a n k):=fun k hk h=>by
  have h1:Ms (4*(flK k+81)) (mulQ a (flM a n k) n):=(Ms.mul ha hs h).le (Nat.mul_le_mul hn (by omega))
  refine ⟨h1,?_⟩
  refine ((h1.tr n).mul (bt_inv (k:=k+1) (by omega))).le ?_
  have:=Nat.mul_le_mul_right (4*(flK k+81)+1) hn
  generalize flK k=f at this ⊢
  generalize hX:4*(f+81)+1=X at this ⊢
  generalize n*X=Y at this ⊢
  omega
 intro k
 induction k with
 | zero=>exact fun hk=>⟨Ms.id n _,key 0 hk (Ms.id n _)⟩
 | succ k ih =>
  intro hk
  obtain ⟨h1,h2,h3⟩:=ih (by omega)
  have h4:Ms (flK (k+1)) (flM a n (k+1)):=(h2.addD h3 n).le (by show _≤20*flK k+1700;omega)
  exact ⟨h4,key (k+1) hk h4⟩
theorem flK_le : ∀ k,k≤4→flK k≤15000000:=by decide
end Go.Eng
namespace Go.Eng
def wQ (S:SysQ):Nat→List Rat
 | 0=>S.b
 | j+1=>mvQ S.a (wQ S j)
def conv (A h:Nat→Rat) (K:Nat):Nat→Rat
 | 0=>0
 | a+1=>conv A h K a+A a*h (K-a)
def cfQ (a:List (List Rat)) (n:Nat):Nat→Rat
 | 0=>1
 | k+1=>cofQ a n k
end Go.Eng

namespace Go.Eng
theorem cof_inv (k:Nat) (hk:k≠0) (t:Rat):((k:Nat):Rat)*(t*Rat.divInt (-1) (k:Int)) = -t:=by
 have h:Rat.divInt (-1) (k:Int)=(-1)/((k:Nat):Rat):=by
  rw[Rat.divInt_ofNat,Rat.mkRat_eq_div];rfl
 have h0:((k:Nat):Rat)≠0:=by exact_mod_cast hk
 rw[h]
 grind
theorem len1 {α:Type} {l:List α} (h:l.length=1) : ∃ a,l=[a]:=by
 rcases l with _|⟨a,_|⟨b,l⟩⟩<;>simp at h
 exact ⟨a,rfl⟩
theorem len2 {α:Type} {l:List α} (h:l.length=2) : ∃ a b,l=[a,b]:=by
 obtain ⟨a,r,rfl⟩ : ∃ a r,l=a::r:=by
  cases l with
  | nil=>simp at h
  | cons a r=>exact ⟨a,r,rfl⟩
 obtain ⟨b,rfl⟩:=len1 (l:=r) (by simpa using h)
 exact ⟨_,_,rfl⟩
theorem len3 {α:Type} {l:List α} (h:l.length=3) : ∃ a b c,l=[a,b,c]:=by
 obtain ⟨a,r,rfl⟩ : ∃ a r,l=a::r:=by
  cases l with
  | nil=>simp at h
  | cons a r=>exact ⟨a,r,rfl⟩
 obtain ⟨b,c,rfl⟩:=len2 (l:=r) (by simpa using h)
 exact ⟨_,_,_,rfl⟩
theorem len4 {α:Type} {l:List α} (h:l.length=4) : ∃ a b c d,l=[a,b,c,d]:=by
 obtain ⟨a,r,rfl⟩ : ∃ a r,l=a::r:=by
  cases l with
  | nil=>simp at h
  | cons a r=>exact ⟨a,r,rfl⟩
 obtain ⟨b,c,d,rfl⟩:=len3 (l:=r) (by simpa using h)
 exact ⟨_,_,_,_,rfl⟩
theorem tr1 (x00 m00:Rat):trQ (mulQ [[x00]] [[m00]] 1) 1=0+(x00*m00+0):=rfl
theorem step2 (x00 x01 x10 x11 m00 m01 m10 m11 c:Rat):addD (mulQ [[x00,x01],[x10,x11]] [[m00,m01],[m10,m11]] 2) c 2=[[(x00*m00+(x01*m10+0))+c,x00*m01+(x01*m11+0)],[x10*m00+(x11*m10+0),(x10*m01+(x11*m11+0))+c]]:=rfl
theorem tr2 (x00 x01 x10 x11 m00 m01 m10 m11:Rat):trQ (mulQ [[x00,x01],[x10,x11]] [[m00,m01],[m10,m11]] 2) 2=(0+(x00*m00+(x01*m10+0)))+(x10*m01+(x11*m11+0)):=rfl
theorem step3 (x00 x01 x02 x10 x11 x12 x20 x21 x22 m00 m01 m02 m10 m11 m12 m20 m21 m22 c:Rat):addD (mulQ [[x00,x01,x02],[x10,x11,x12],[x20,x21,x22]] [[m00,m01,m02],[m10,m11,m12],[m20,m21,m22]] 3) c 3=[[(x00*m00+(x01*m10+(x02*m20+0)))+c,x00*m01+(x01*m11+(x02*m21+0)),x00*m02+(x01*m12+(x02*m22+0))],[x10*m00+(x11*m10+(x12*m20+0)),(x10*m01+(x11*m11+(x12*m21+0)))+c,x10*m02+(x11*m12+(x12*m22+0))],[x20*m00+(x21*m10+(x22*m20+0)),x20*m01+(x21*m11+(x22*m21+0)),(x20*m02+(x21*m12+(x22*m22+0)))+c]]:=rfl
theorem tr3 (x00 x01 x02 x10 x11 x12 x20 x21 x22 m00 m01 m02 m10 m11 m12 m20 m21 m22:Rat):trQ (mulQ [[x00,x01,x02],[x10,x11,x12],[x20,x21,x22]] [[m00,m01,m02],[m10,m11,m12],[m20,m21,m22]] 3) 3=((0+(x00*m00+(x01*m10+(x02*m20+0))))+(x10*m01+(x11*m11+(x12*m21+0))))+(x20*m02+(x21*m12+(x22*m22+0))):=rfl
theorem step4 (x00 x01 x02 x03 x10 x11 x12 x13 x20 x21 x22 x23 x30 x31 x32 x33 m00 m01 m02 m03 m10 m11 m12 m13 m20 m21 m22 m23 m30 m31 m32 m33 c:Rat):addD (mulQ [[x00,x01,x02,x03],[x10,x11,x12,x13],[x20,x21,x22,x23],[x30,x31,x32,x33]] [[m00,m01,m02,m03],[m10,m11,m12,m13],[m20,m21,m22,m23],[m30,m31,m32,m33]] 4) c 4=[[(x00*m00+(x01*m10+(x02*m20+(x03*m30+0))))+c,x00*m01+(x01*m11+(x02*m21+(x03*m31+0))),x00*m02+(x01*m12+(x02*m22+(x03*m32+0))),x00*m03+(x01*m13+(x02*m23+(x03*m33+0)))],[x10*m00+(x11*m10+(x12*m20+(x13*m30+0))),(x10*m01+(x11*m11+(x12*m21+(x13*m31+0))))+c,x10*m02+(x11*m12+(x12*m22+(x13*m32+0))),x10*m03+(x11*m13+(x12*m23+(x13*m33+0)))],[x20*m00+(x21*m10+(x22*m20+(x23*m30+0))),x20*m01+(x21*m11+(x22*m21+(x23*m31+0))),(x20*m02+(x21*m12+(x22*m22+(x23*m32+0))))+c,x20*m03+(x21*m13+(x22*m23+(x23*m33+0)))],[x30*m00+(x31*m10+(x32*m20+(x33*m30+0))),x30*m01+(x31*m11+(x32*m21+(x33*m31+0))),x30*m02+(x31*m12+(x32*m22+(x33*m32+0))),(x30*m03+(x31*m13+(x32*m23+(x33*m33+0))))+c]]:=rfl
theorem tr4 (x00 x01 x02 x03 x10 x11 x12 x13 x20 x21 x22 x23 x30 x31 x32 x33 m00 m01 m02 m03 m10 m11 m12 m13 m20 m21 m22 m23 m30 m31 m32 m33:Rat):trQ (mulQ [[x00,x01,x02,x03],[x10,x11,x12,x13],[x20,x21,x22,x23],[x30,x31,x32,x33]] [[m00,m01,m02,m03],[m10,m11,m12,m13],[m20,m21,m22,m23],[m30,m31,m32,m33]] 4) 4=(((0+(x00*m00+(x01*m10+(x02*m20+(x03*m30+0)))))+(x10*m01+(x11*m11+(x12*m21+(x13*m31+0)))))+(x20*m02+(x21*m12+(x22*m22+(x23*m32+0)))))+(x30*m03+(x31*m13+(x32*m23+(x33*m33+0)))):=rfl
end Go.Eng

namespace Go.Eng
open F
attribute [local irreducible] AKM CmpP Req OpP UnP ConvP RdP LdR StR MkR LenP AppR AppN CpyR RowP SnR Bds SlS CallP CalP FinP pw LdM GetM SetM PutM MkM AppM SnM FlP CallR
set_option maxHeartbeats 1000000
variable {L:Lib}
def cmpS (a b:Int):Int:=if a<b then -1 else if b<a then 1 else 0
theorem cmpS_lt {a b:Int} (h:a<b) : -1=cmpS a b:=by unfold cmpS;rw[if_pos h]
theorem cmpS_gt {a b:Int} (h:b<a):1=cmpS a b:=by unfold cmpS;rw[if_neg (by omega),if_pos h]
theorem cmpS_eq {a b:Int} (h:a=b):0=cmpS a b:=by unfold cmpS;rw[if_neg (by omega),if_neg (by omega)]
theorem ev_isNaN_int (N:NatGLib L) (a:Int):Ev L 58 [.int .i64 a] (.bool false):=by
 refine Ev.x N.cmp_isNaN_int rfl rfl ?_
 (repeat' (first|(refine CmpP.go (fun hc => ?_) (fun hc => ?_)<;>first|(exfalso;omega)|(conv=>whnf))|(refine AKM.x ?_;conv=>whnf)))
 exact FinP.b rfl
theorem ev_isNaN_uint32 (N:NatGLib L) (a:Int):Ev L 59 [.int .u32 a] (.bool false):=by
 refine Ev.x N.cmp_isNaN_uint32 rfl rfl ?_
 (repeat' (first|(refine CmpP.go (fun hc => ?_) (fun hc => ?_)<;>first|(exfalso;omega)|(conv=>whnf))|(refine AKM.x ?_;conv=>whnf)))
 exact FinP.b rfl
theorem ev_Compare_int (N:NatGLib L) (a b:Int):Ev L 60 [.int .i64 a,.int .i64 b] (.int .i64 (cmpS a b)):=by
 refine Ev.x N.cmp_Compare_int rfl rfl ?_
 (repeat' (first|(refine CmpP.go (fun hc => ?_) (fun hc => ?_)<;>first|(exfalso;omega)|(conv=>whnf))|(refine AKM.x ?_;conv=>whnf)|(refine CallP.go (ev_isNaN_int N _) ?_;conv=>whnf)))
 ·exact FinP.i (cmpS_lt (by omega))
 ·exact FinP.i (cmpS_gt (by omega))
 ·exact FinP.i (cmpS_eq (by omega))
theorem ev_Compare_uint32 (N:NatGLib L) (a b:Int):Ev L 61 [.int .u32 a,.int .u32 b] (.int .i64 (cmpS a b)):=by
 refine Ev.x N.cmp_Compare_uint32 rfl rfl ?_
 (repeat' (first|(refine CmpP.go (fun hc => ?_) (fun hc => ?_)<;>first|(exfalso;omega)|(conv=>whnf))|(refine AKM.x ?_;conv=>whnf)|(refine CallP.go (ev_isNaN_uint32 N _) ?_;conv=>whnf)))
 ·exact FinP.i (cmpS_lt (by omega))
 ·exact FinP.i (cmpS_gt (by omega))
 ·exact FinP.i (cmpS_eq (by omega))
theorem ev_Clone (N:NatGLib L) (l:List Nat) (q:Bool) (hl:l.length≤1099511627776):Ev L 62 [.sl q (l.map e32)] (.sl false (l.map e32)):=by
 cases l with
 | nil =>
  refine EvD.nil N.slices_Clone_uint32_uint32 (EvD.x N.slices_Clone_uint32_uint32 rfl rfl ?_) (EvD.x N.slices_Clone_uint32_uint32 rfl rfl ?_)
  ·(repeat' (refine AKM.x ?_;conv=>whnf))
   exact FinP.go rfl (by simp [Clean,CleanLL])
  ·(repeat' (refine AKM.x ?_;conv=>whnf))
   refine AppR.many (enc:=e32) (l:=[]) (l':=[]) rfl (fun _=>rfl) (by simp) (by simp) ?_
   (conv=>whnf)
   (repeat' (refine SnR.all (fun _=>rfl) rfl ?_ ?_;(first|rfl|simp);conv=>whnf))
   exact FinP.go rfl (by simp [Clean,CleanLL])
 | cons d l =>
  refine EvD.cons (EvD.x N.slices_Clone_uint32_uint32 rfl rfl ?_)
  (repeat' (refine AKM.x ?_;conv=>whnf))
  refine Req.go (by simp) ?_
  (conv=>whnf)
  skip
  refine AppR.many (enc:=e32) (l:=[]) (l':=d::l) rfl (fun _=>rfl) (by simp at hl ⊢;omega) (by simp at hl ⊢;omega) ?_
  (conv=>whnf)
  (repeat' (refine SnR.all (fun _=>rfl) rfl ?_ ?_;(first|rfl|simp);conv=>whnf))
  exact FinP.go rfl (by simp only[Clean,true_and];exact cl_dig (d::l))
theorem ro_cut (N:NatGLib L) (l:List Nat) (q:Bool) (hD:Dig l) (hl:l.length≤1099511627776):RoF L 65 [.sl q (l.map e32)] (.sl q ((dg (val l)).map e32)):=by
 refine RoF.x N.nat_cut rfl rfl rfl rfl rfl ?_
 (repeat' (first|(refine LenP.go ?_;conv=>whnf)|(refine AKM.x ?_;conv=>whnf)))
 refine AKM.loop1 (fun n=>n) (fun (n:Nat)=>n≤l.length ∧ ∀ i,n≤i→i<l.length→l[i]? = some 0) (fun n=>[(3,.int .i64 n)]) (fun _=>[]) [] [] l.length (by (conv=>whnf);exact ⟨rfl,rfl,rfl⟩) ⟨Nat.le_refl _,fun i h1 h2=>by omega⟩ ?_
 intro n ⟨p1,p2⟩ ih
 rcases n with _|n
 ·(repeat' (first|(refine CmpP.go (fun hc => ?_) (fun hc => ?_)<;>first|(exfalso;omega)|(conv=>whnf))|(refine AKM.x ?_;conv=>whnf)))
  refine SlS.to (k:=0) (fun _=>rfl) (by omega) ?_
  (conv=>whnf)
  refine ⟨_,rfl,?_⟩
  rw[cut_found hD p1 p2 (Or.inl rfl)];rfl
 ·have e1:((n+1:Nat):Int)-1=n:=by omega
  (repeat' (first|(refine CmpP.go (fun hc => ?_) (fun hc => ?_)<;>first|(exfalso;omega)|(conv=>whnf))|(refine OpP.sub ?_ ?_;omega;conv=>whnf)|(refine RdP.digi (by assumption) ?_ (fun e he hb => ?_);omega;conv=>whnf)|(refine AKM.x ?_;conv=>whnf)))
  ·rw[e1]
   exact AKM.back [] (by (conv=>whnf);exact ⟨rfl,rfl,rfl⟩) (ih n (by omega) ⟨by omega,fun i h1 h2=>by
    by_cases h:i=n
    ·subst h
     rw[e1,Int.toNat_natCast]at he
     rw[he];congr 1;omega
    ·exact p2 i (by omega) h2⟩)
  ·refine SlS.to (k:=n+1) (fun _=>rfl) (by omega) ?_
   (conv=>whnf)
   refine ⟨_,rfl,?_⟩
   rw[e1,Int.toNat_natCast]at he
   rw[cut_found hD p1 p2 (Or.inr ⟨e,he,by omega⟩)];rfl
theorem ev_Trim (N:NatGLib L) (l:List Nat) (q:Bool) (hD:Dig l) (hl:l.length≤1099511627776):Ev L 66 [.sl q (l.map e32)] (.sl false ((dg (val l)).map e32)):=by
 have hc:=dg_len_val hD
 refine Ev.x N.nat_Trim rfl rfl ?_
 (repeat' (first|(refine AKM.x ?_;conv=>whnf)|(refine CalP.ro (ro_cut N l _ hD hl) ?_;conv=>whnf)|(refine CallP.go (ev_Clone N (dg (val l)) _ (by omega)) ?_;conv=>whnf)))
 exact FinP.go rfl (by simp only[Clean,true_and];exact cl_dig _)
theorem cmp_len {a b:Nat} (h:((dg a).length:Int)≠(dg b).length):cmpS (dg a).length (dg b).length=cmpS a b:=by
 rcases Nat.lt_trichotomy (dg a).length (dg b).length with h1|h1|h1
 ·have:=val_lt_of_len h1
  rw[←cmpS_lt (by omega),←cmpS_lt (by omega)]
 ·omega
 ·have:=val_lt_of_len h1
  rw[←cmpS_gt (by omega),←cmpS_gt (by omega)]
theorem ev_nat_Compare (N:NatGLib L) (a b:List Nat) (q1 q2:Bool) (hA:Dig a) (hB:Dig b) (la:a.length≤1099511627776) (lb:b.length≤1099511627776):Ev L 67 [.sl q1 (a.map e32),.sl q2 (b.map e32)] (.int .i64 (cmpS (val a) (val b))):=by
 have l1:=dg_len_val hA
 have l2:=dg_len_val hB
 have d1:=dig_dg (val a)
 have d2:=dig_dg (val b)
 refine Ev.x N.nat_Compare rfl rfl ?_
 (repeat' (first|(refine CmpP.go (fun hc => ?_) (fun hc => ?_)<;>first|(exfalso;omega)|(conv=>whnf))|(refine OpP.sub ?_ ?_;omega;conv=>whnf)|(refine LenP.go ?_;conv=>whnf)|(refine AKM.x ?_;conv=>whnf)|(refine CalP.ro (ro_cut N a _ hA la) ?_;conv=>whnf)|(refine CalP.ro (ro_cut N b _ hB lb) ?_;conv=>whnf)|(refine CallP.go (ev_Compare_int N _ _) ?_;conv=>whnf)))
 ·exact FinP.i (cmp_len (by omega))
 have hlen:(dg (val a)).length=(dg (val b)).length:=by omega
 have v1:=val_dg (val a)
 have v2:=val_dg (val b)
 generalize dg (val a)=X at *
 generalize dg (val b)=Y at *
 refine AKM.loop1 (fun n=>n) (fun (n:Nat)=>n≤X.length∧X.drop n=Y.drop n) (fun n=>[(7,.int .i64 ((n:Int)-1))]) (fun _=>[]) [] [] X.length (by (conv=>whnf);exact ⟨rfl,rfl,rfl⟩) ⟨Nat.le_refl _,by rw[List.drop_of_length_le (Nat.le_refl _),List.drop_of_length_le (by omega)]⟩ ?_
 intro n ⟨p1,p2⟩ ih
 rcases n with _|n
 ·(repeat' (first|(refine CmpP.go (fun hc => ?_) (fun hc => ?_)<;>first|(exfalso;omega)|(conv=>whnf))|(refine AKM.x ?_;conv=>whnf)))
  rw[List.drop_zero,List.drop_zero]at p2
  exact FinP.i (cmpS_eq (by rw[←v1,←v2,p2]))
 ·have e1:((n+1:Nat):Int)-1=n:=by omega
  rw[e1]
  (repeat' (first|(refine CmpP.go (fun hc => ?_) (fun hc => ?_)<;>first|(exfalso;omega)|(conv=>whnf))|(refine OpP.sub ?_ ?_;omega;conv=>whnf)|(refine RdP.at (by assumption) ?_ rfl ?_;omega;conv=>whnf)|(refine RdP.dig (by assumption) ?_ (fun e he hb => ?_);omega;conv=>whnf)|(refine AKM.x ?_;conv=>whnf)|(refine CallP.go (ev_Compare_uint32 N _ _) ?_;conv=>whnf)))
  ·rename_i x hx _
   rcases Nat.lt_trichotomy x e with h|h|h
   ·have:=val_lt_of_drop d1 d2 hlen hx he p2 h
    refine FinP.i ?_
    rw[←cmpS_lt (by omega),←cmpS_lt (by omega)]
   ·omega
   ·have:=val_lt_of_drop d2 d1 hlen.symm he hx p2.symm h
    refine FinP.i ?_
    rw[←cmpS_gt (by omega),←cmpS_gt (by omega)]
  ·rename_i x hx _
   refine AKM.back [] (by (conv=>whnf);exact ⟨rfl,rfl,rfl⟩) (ih n (by omega) ⟨by omega,?_⟩)
   obtain ⟨i1,e1⟩:=List.getElem?_eq_some_iff.1 hx
   obtain ⟨i2,e2⟩:=List.getElem?_eq_some_iff.1 he
   rw[List.drop_eq_getElem_cons i1,List.drop_eq_getElem_cons i2,p2,e1,e2]
   congr 1
   omega
end Go.Eng

namespace Go.Eng
open F
attribute [local irreducible] AKM CmpP Req OpP UnP ConvP RdP LdR StR MkR LenP AppR AppN CpyR RowP SnR Bds SlS CallP CalP FinP pw LdM GetM SetM PutM MkM AppM SnM FlP CallR
set_option maxHeartbeats 1000000
variable {L:Lib}
theorem val_take_end {y:List Nat} {i:Nat} (h:y.length≤i):val (y.take (i+1))=val (y.take i):=by
 rw[val_take_all h,val_take_all (by omega)]
theorem ev_nat_Add (N:NatGLib L) (a b:List Nat) (q1 q2:Bool) (hA:Dig a) (hB:Dig b) (la:a.length≤1099511627775) (lb:b.length≤1099511627775):Ev L 68 [.sl q1 (a.map e32),.sl q2 (b.map e32)] (.sl false ((dg (val a+val b)).map e32)):=by
 have l1:=dg_len_val hA
 have l2:=dg_len_val hB
 have d1:=dig_dg (val a)
 have d2:=dig_dg (val b)
 have v1:=val_dg (val a)
 have v2:=val_dg (val b)
 refine Ev.x N.nat_Add rfl rfl ?_
 (repeat' (first|(refine CmpP.go (fun hc => ?_) (fun hc => ?_)<;>first|(exfalso;omega)|(conv=>whnf))|(refine OpP.add ?_ ?_;omega;conv=>whnf)|(refine LenP.go ?_;conv=>whnf)|(refine AKM.x ?_;conv=>whnf)|(refine CalP.ro (ro_cut N a _ hA (by omega)) ?_;conv=>whnf)|(refine CalP.ro (ro_cut N b _ hB (by omega)) ?_;conv=>whnf)))
 ·generalize dg (val a)=y at *
  generalize dg (val b)=x at *
  rw[←v1,←v2,Nat.add_comm (val y)]
  have hlen:y.length≤x.length:=by omega
  have hxl:x.length≤1099511627775:=by omega
  clear v1 v2 hA hB la lb
  refine MkR.go (enc:=e32) 0 (x.length+1) rfl (by omega) (by omega) ?_
  (conv=>whnf)
  (repeat' (refine LenP.go ?_;conv=>whnf))
  refine AKM.loop3 (fun i _ _=>x.length-i) (fun (i:Nat) (o:List Nat) (c:Nat)=>i≤x.length∧o.length=x.length+1∧Dig o∧c≤1∧val (o.take i)+4294967296^i*c=val (x.take i)+val (y.take i)) (fun i o c=>[(8,.int .u64 (c:Int)),(29,.int .i64 i)]) (fun i o c=>[(26,26,.rw 1 (o.map e32))]) [] [] 0 (List.replicate (x.length+1) 0) 0 (by (conv=>whnf);exact ⟨rfl,rfl,rfl⟩) ⟨by omega,by simp,dig_zeros _,by omega,by simp [val]⟩ ?_
  intro i o c ⟨p1,p2,p3,p4,p5⟩ ih
  by_cases hi:i<x.length
  ·(repeat' (first|(refine CmpP.go (fun hc => ?_) (fun hc => ?_)<;>first|(exfalso;omega)|(conv=>whnf))|(refine Req.go ?_ ?_;omega;conv=>whnf)|(refine OpP.nadd ?_ ?_;omega;conv=>whnf)|(refine ConvP.u64 ?_ ?_;omega;conv=>whnf)|(refine ConvP.n32 ?_;conv=>whnf)|(refine LenP.go ?_;conv=>whnf)|(refine RdP.dig (by assumption) ?_ (fun e he hb => ?_);omega;conv=>whnf)|(refine AKM.x ?_;conv=>whnf)))
   ·rename_i d hd _
    refine StR.dig (by omega) ?_
    (conv=>whnf)
    (repeat' (first|(refine OpP.add ?_ ?_;omega;conv=>whnf)|(refine OpP.nshr32 ?_;conv=>whnf)))
    refine AKM.back [] (by (conv=>whnf);exact ⟨rfl,rfl,rfl⟩) (ih (i+1) _ _ (by omega) ⟨by omega,by simpa using p2,p3.set _ (by omega),by omega,?_⟩)
    have h1:=val_take_succ hd
    have h2:=val_take_succ he
    have h3:=carry_step (val (o.take i)) (4294967296^i) (d+c+e)
    have h4:=val_set_take (v:=(d+c+e)%4294967296) (show i<o.length by omega)
    rw[h4,h1,h2,Nat.pow_succ]
    generalize 4294967296^i=p at *
    rw[h3,Nat.mul_add,Nat.mul_add]
    omega
   ·refine StR.dig (by omega) ?_
    (conv=>whnf)
    (repeat' (first|(refine OpP.add ?_ ?_;omega;conv=>whnf)|(refine OpP.nshr32 ?_;conv=>whnf)))
    refine AKM.back [] (by (conv=>whnf);exact ⟨rfl,rfl,rfl⟩) (ih (i+1) _ _ (by omega) ⟨by omega,by simpa using p2,p3.set _ (by omega),by omega,?_⟩)
    have h1:=val_take_succ he
    have h2:=val_take_end (y:=y) (i:=i) (by omega)
    have h3:=carry_step (val (o.take i)) (4294967296^i) (e+c)
    have h4:=val_set_take (v:=(e+c)%4294967296) (show i<o.length by omega)
    rw[h4,h1,h2,Nat.pow_succ]
    generalize 4294967296^i=p at *
    rw[h3,Nat.mul_add]
    omega
  ·obtain rfl:i=x.length:=by omega
   clear ih
   (repeat' (first|(refine CmpP.go (fun hc => ?_) (fun hc => ?_)<;>first|(exfalso;omega)|(conv=>whnf))|(refine Req.go ?_ ?_;omega;conv=>whnf)|(refine ConvP.n32i ?_ ?_;omega;conv=>whnf)|(refine LenP.go ?_;conv=>whnf)|(refine AKM.x ?_;conv=>whnf)))
   refine StR.dig (by omega) ?_
   (conv=>whnf)
   skip
   have hV:val (o.set x.length c)=val x+val y:=by
    have h4:=val_set_take (v:=c) (show x.length<o.length by omega)
    rw[List.take_of_length_le (by simp;omega)]at h4
    rw[h4,p5,val_take_all (Nat.le_refl _),val_take_all hlen]
   have hD:Dig (o.set x.length c):=p3.set _ (by omega)
   have hL:(o.set x.length c).length=x.length+1:=by simpa using p2
   clear p3 p4 p5 p2
   generalize o.set x.length c=O at *
   rw[←hL]
   refine CalP.walk 1000 N.nat_cut rfl rfl ?_
   (repeat' (refine AKM.x ?_;conv=>whnf))
   refine AKM.loop1 (fun n=>n) (fun (n:Nat)=>n≤(O).length ∧ ∀ i,n≤i→i<(O).length→(O)[i]? = some 0) (fun n=>[(3,.int .i64 n)]) (fun _=>[]) [] [] (O).length (by first|exact (by (conv=>whnf);exact ⟨rfl,rfl,rfl⟩)|(simp only[List.length_set,List.length_replicate];exact (by (conv=>whnf);exact ⟨rfl,rfl,rfl⟩))) ⟨Nat.le_refl _,fun i h1 h2=>by omega⟩ ?_
   intro n ⟨p1,p2⟩ ih
   rcases n with _|n
   ·(repeat' (first|(refine CmpP.go (fun hc => ?_) (fun hc => ?_)<;>first|(exfalso;omega)|(conv=>whnf))|(refine AKM.x ?_;conv=>whnf)))
    refine Bds.up 0 (by omega) (by omega) ?_
    (conv=>whnf)
    refine ⟨rfl,_,rfl,?_⟩
    (conv=>whnf)
    have hm:=p1
    have hct:=cut_found (l:=O) (by assumption) p1 p2 (Or.inl rfl)
    clear ih p1 p2
    (refine SnR.part (enc:=e32) (fun _=>rfl) (by omega) ?_;(conv=>whnf);exact FinP.go (by rw[←hV,←hct];rfl) (by simp only[Clean,true_and];exact cl_dig _))
   ·have e1:((n+1:Nat):Int)-1=n:=by omega
    (repeat' (first|(refine CmpP.go (fun hc => ?_) (fun hc => ?_)<;>first|(exfalso;omega)|(conv=>whnf))|(refine Req.go ?_ ?_;omega;conv=>whnf)|(refine OpP.sub ?_ ?_;omega;conv=>whnf)|(refine LdR.digi (by assumption) ?_ (fun v hv hb => ?_);omega;conv=>whnf)|(refine AKM.x ?_;conv=>whnf)))
    ·rw[e1]
     exact AKM.back [] (by (conv=>whnf);exact ⟨rfl,rfl,rfl⟩) (ih n (by omega) ⟨by omega,fun i h1 h2=>by
      by_cases h:i=n
      ·subst h
       rw[e1,Int.toNat_natCast]at hv
       rw[hv];congr 1;omega
      ·exact p2 i (by omega) h2⟩)
    ·refine Bds.up (n+1) (by omega) (by omega) ?_
     (conv=>whnf)
     refine ⟨rfl,_,rfl,?_⟩
     (conv=>whnf)
     rw[e1,Int.toNat_natCast]at hv
     have hm:=p1
     have hct:=cut_found (l:=O) (by assumption) p1 p2 (Or.inr ⟨_,hv,by omega⟩)
     clear ih p1 p2 hv
     (refine SnR.part (enc:=e32) (fun _=>rfl) (by omega) ?_;(conv=>whnf);exact FinP.go (by rw[←hV,←hct];rfl) (by simp only[Clean,true_and];exact cl_dig _))
 ·generalize dg (val a)=x at *
  generalize dg (val b)=y at *
  rw[←v1,←v2]
  have hlen:y.length≤x.length:=by omega
  have hxl:x.length≤1099511627775:=by omega
  clear v1 v2 hA hB la lb
  refine MkR.go (enc:=e32) 0 (x.length+1) rfl (by omega) (by omega) ?_
  (conv=>whnf)
  (repeat' (refine LenP.go ?_;conv=>whnf))
  refine AKM.loop3 (fun i _ _=>x.length-i) (fun (i:Nat) (o:List Nat) (c:Nat)=>i≤x.length∧o.length=x.length+1∧Dig o∧c≤1∧val (o.take i)+4294967296^i*c=val (x.take i)+val (y.take i)) (fun i o c=>[(8,.int .u64 (c:Int)),(29,.int .i64 i)]) (fun i o c=>[(26,26,.rw 1 (o.map e32))]) [] [] 0 (List.replicate (x.length+1) 0) 0 (by (conv=>whnf);exact ⟨rfl,rfl,rfl⟩) ⟨by omega,by simp,dig_zeros _,by omega,by simp [val]⟩ ?_
  intro i o c ⟨p1,p2,p3,p4,p5⟩ ih
  by_cases hi:i<x.length
  ·(repeat' (first|(refine CmpP.go (fun hc => ?_) (fun hc => ?_)<;>first|(exfalso;omega)|(conv=>whnf))|(refine Req.go ?_ ?_;omega;conv=>whnf)|(refine OpP.nadd ?_ ?_;omega;conv=>whnf)|(refine ConvP.u64 ?_ ?_;omega;conv=>whnf)|(refine ConvP.n32 ?_;conv=>whnf)|(refine LenP.go ?_;conv=>whnf)|(refine RdP.dig (by assumption) ?_ (fun e he hb => ?_);omega;conv=>whnf)|(refine AKM.x ?_;conv=>whnf)))
   ·rename_i d hd _
    refine StR.dig (by omega) ?_
    (conv=>whnf)
    (repeat' (first|(refine OpP.add ?_ ?_;omega;conv=>whnf)|(refine OpP.nshr32 ?_;conv=>whnf)))
    refine AKM.back [] (by (conv=>whnf);exact ⟨rfl,rfl,rfl⟩) (ih (i+1) _ _ (by omega) ⟨by omega,by simpa using p2,p3.set _ (by omega),by omega,?_⟩)
    have h1:=val_take_succ hd
    have h2:=val_take_succ he
    have h3:=carry_step (val (o.take i)) (4294967296^i) (d+c+e)
    have h4:=val_set_take (v:=(d+c+e)%4294967296) (show i<o.length by omega)
    rw[h4,h1,h2,Nat.pow_succ]
    generalize 4294967296^i=p at *
    rw[h3,Nat.mul_add,Nat.mul_add]
    omega
   ·refine StR.dig (by omega) ?_
    (conv=>whnf)
    (repeat' (first|(refine OpP.add ?_ ?_;omega;conv=>whnf)|(refine OpP.nshr32 ?_;conv=>whnf)))
    refine AKM.back [] (by (conv=>whnf);exact ⟨rfl,rfl,rfl⟩) (ih (i+1) _ _ (by omega) ⟨by omega,by simpa using p2,p3.set _ (by omega),by omega,?_⟩)
    have h1:=val_take_succ he
    have h2:=val_take_end (y:=y) (i:=i) (by omega)
    have h3:=carry_step (val (o.take i)) (4294967296^i) (e+c)
    have h4:=val_set_take (v:=(e+c)%4294967296) (show i<o.length by omega)
    rw[h4,h1,h2,Nat.pow_succ]
    generalize 4294967296^i=p at *
    rw[h3,Nat.mul_add]
    omega
  ·obtain rfl:i=x.length:=by omega
   clear ih
   (repeat' (first|(refine CmpP.go (fun hc => ?_) (fun hc => ?_)<;>first|(exfalso;omega)|(conv=>whnf))|(refine Req.go ?_ ?_;omega;conv=>whnf)|(refine ConvP.n32i ?_ ?_;omega;conv=>whnf)|(refine LenP.go ?_;conv=>whnf)|(refine AKM.x ?_;conv=>whnf)))
   refine StR.dig (by omega) ?_
   (conv=>whnf)
   skip
   have hV:val (o.set x.length c)=val x+val y:=by
    have h4:=val_set_take (v:=c) (show x.length<o.length by omega)
    rw[List.take_of_length_le (by simp;omega)]at h4
    rw[h4,p5,val_take_all (Nat.le_refl _),val_take_all hlen]
   have hD:Dig (o.set x.length c):=p3.set _ (by omega)
   have hL:(o.set x.length c).length=x.length+1:=by simpa using p2
   clear p3 p4 p5 p2
   generalize o.set x.length c=O at *
   rw[←hL]
   refine CalP.walk 1000 N.nat_cut rfl rfl ?_
   (repeat' (refine AKM.x ?_;conv=>whnf))
   refine AKM.loop1 (fun n=>n) (fun (n:Nat)=>n≤(O).length ∧ ∀ i,n≤i→i<(O).length→(O)[i]? = some 0) (fun n=>[(3,.int .i64 n)]) (fun _=>[]) [] [] (O).length (by first|exact (by (conv=>whnf);exact ⟨rfl,rfl,rfl⟩)|(simp only[List.length_set,List.length_replicate];exact (by (conv=>whnf);exact ⟨rfl,rfl,rfl⟩))) ⟨Nat.le_refl _,fun i h1 h2=>by omega⟩ ?_
   intro n ⟨p1,p2⟩ ih
   rcases n with _|n
   ·(repeat' (first|(refine CmpP.go (fun hc => ?_) (fun hc => ?_)<;>first|(exfalso;omega)|(conv=>whnf))|(refine AKM.x ?_;conv=>whnf)))
    refine Bds.up 0 (by omega) (by omega) ?_
    (conv=>whnf)
    refine ⟨rfl,_,rfl,?_⟩
    (conv=>whnf)
    have hm:=p1
    have hct:=cut_found (l:=O) (by assumption) p1 p2 (Or.inl rfl)
    clear ih p1 p2
    (refine SnR.part (enc:=e32) (fun _=>rfl) (by omega) ?_;(conv=>whnf);exact FinP.go (by rw[←hV,←hct];rfl) (by simp only[Clean,true_and];exact cl_dig _))
   ·have e1:((n+1:Nat):Int)-1=n:=by omega
    (repeat' (first|(refine CmpP.go (fun hc => ?_) (fun hc => ?_)<;>first|(exfalso;omega)|(conv=>whnf))|(refine Req.go ?_ ?_;omega;conv=>whnf)|(refine OpP.sub ?_ ?_;omega;conv=>whnf)|(refine LdR.digi (by assumption) ?_ (fun v hv hb => ?_);omega;conv=>whnf)|(refine AKM.x ?_;conv=>whnf)))
    ·rw[e1]
     exact AKM.back [] (by (conv=>whnf);exact ⟨rfl,rfl,rfl⟩) (ih n (by omega) ⟨by omega,fun i h1 h2=>by
      by_cases h:i=n
      ·subst h
       rw[e1,Int.toNat_natCast]at hv
       rw[hv];congr 1;omega
      ·exact p2 i (by omega) h2⟩)
    ·refine Bds.up (n+1) (by omega) (by omega) ?_
     (conv=>whnf)
     refine ⟨rfl,_,rfl,?_⟩
     (conv=>whnf)
     rw[e1,Int.toNat_natCast]at hv
     have hm:=p1
     have hct:=cut_found (l:=O) (by assumption) p1 p2 (Or.inr ⟨_,hv,by omega⟩)
     clear ih p1 p2 hv
     (refine SnR.part (enc:=e32) (fun _=>rfl) (by omega) ?_;(conv=>whnf);exact FinP.go (by rw[←hV,←hct];rfl) (by simp only[Clean,true_and];exact cl_dig _))
theorem cmpS_le {a b:Int} (h:cmpS a b≤0):a≤b:=by
 unfold cmpS at h
 split at h
 ·omega
 ·split at h<;>omega
theorem cmpS_pos {a b:Int} (h:0<cmpS a b):b<a:=by
 unfold cmpS at h
 split at h
 ·omega
 ·split at h<;>omega
theorem ev_nat_Sub (N:NatGLib L) (a b:List Nat) (q1 q2:Bool) (hA:Dig a) (hB:Dig b) (la:a.length≤1099511627776) (lb:b.length≤1099511627776):Ev L 69 [.sl q1 (a.map e32),.sl q2 (b.map e32)] (.sl false ((dg (val a-val b)).map e32)):=by
 have l1:=dg_len_val hA
 have l2:=dg_len_val hB
 have d1:=dig_dg (val a)
 have d2:=dig_dg (val b)
 have v1:=val_dg (val a)
 have v2:=val_dg (val b)
 refine Ev.x N.nat_Sub rfl rfl ?_
 (repeat' (first|(refine CmpP.go (fun hc => ?_) (fun hc => ?_)<;>first|(exfalso;omega)|(conv=>whnf))|(refine LenP.go ?_;conv=>whnf)|(refine AKM.x ?_;conv=>whnf)|(refine CallP.go (ev_nat_Compare N a b _ _ hA hB la lb) ?_;conv=>whnf)|(refine CalP.ro (ro_cut N a _ hA la) ?_;conv=>whnf)|(refine CalP.ro (ro_cut N b _ hB lb) ?_;conv=>whnf)))
 ·have:=cmpS_le hc
  refine FinP.go ?_ (by simp only[Clean,true_and];exact cl_dig _)
  rw[show val a-val b=0 by omega,dg_zero];rfl
 ·have hlt:=cmpS_pos hc
  have hll:(dg (val b)).length≤(dg (val a)).length:=by
   rcases Nat.lt_or_ge (dg (val a)).length (dg (val b)).length with h|h
   ·have:=val_lt_of_len h;omega
   ·exact h
  have hlt':val b<val a:=by omega
  clear hlt hc
  generalize dg (val a)=x at *
  generalize dg (val b)=y at *
  rw[←v1,←v2]at hlt' ⊢
  clear v1 v2 hA hB lb
  refine MkR.go (enc:=e32) 0 x.length rfl rfl (by omega) ?_
  (conv=>whnf)
  (repeat' (refine LenP.go ?_;conv=>whnf))
  refine AKM.loop3 (fun i _ _=>x.length-i) (fun (i:Nat) (o:List Nat) (c:Nat)=>i≤x.length∧o.length=x.length∧Dig o∧c≤1∧val (o.take i)+val (y.take i)=val (x.take i)+4294967296^i*c) (fun i o c=>[(8,.int .u64 (c:Int)),(25,.int .i64 i)]) (fun i o c=>[(22,22,.rw 1 (o.map e32))]) [] [] 0 (List.replicate x.length 0) 0 (by (conv=>whnf);exact ⟨rfl,rfl,rfl⟩) ⟨by omega,by simp,dig_zeros _,by omega,by simp [val]⟩ ?_
  intro i o c ⟨p1,p2,p3,p4,p5⟩ ih
  by_cases hi:i<x.length
  ·(repeat' (first|(refine CmpP.go (fun hc => ?_) (fun hc => ?_)<;>first|(exfalso;omega)|(conv=>whnf))|(refine Req.go ?_ ?_;omega;conv=>whnf)|(refine OpP.nsubw ?_ ?_;omega;conv=>whnf)|(refine ConvP.u64 ?_ ?_;omega;conv=>whnf)|(refine ConvP.n32 ?_;conv=>whnf)|(refine LenP.go ?_;conv=>whnf)|(refine RdP.dig (by assumption) ?_ (fun e he hb => ?_);omega;conv=>whnf)|(refine AKM.x ?_;conv=>whnf)))
   ·rename_i d hd hdb
    obtain ⟨s1,s2⟩:=sub_step2 hdb hb p4
    refine StR.dig (by omega) ?_
    (conv=>whnf)
    (repeat' (first|(refine OpP.add ?_ ?_;omega;conv=>whnf)|(refine OpP.nshr63 ?_;conv=>whnf)))
    generalize w64s (w64s d c) e=t at *
    refine AKM.back [] (by (conv=>whnf);exact ⟨rfl,rfl,rfl⟩) (ih (i+1) _ _ (by omega) ⟨by omega,by simpa using p2,p3.set _ (by omega),s2,?_⟩)
    rw[val_set_take (by omega),val_take_succ hd,val_take_succ he,Nat.pow_succ]
    exact sub_carry p5 s1
   ·obtain ⟨s1,s2⟩:=sub_step1 hb p4
    refine StR.dig (by omega) ?_
    (conv=>whnf)
    (repeat' (first|(refine OpP.add ?_ ?_;omega;conv=>whnf)|(refine OpP.nshr63 ?_;conv=>whnf)))
    generalize w64s e c=t at *
    refine AKM.back [] (by (conv=>whnf);exact ⟨rfl,rfl,rfl⟩) (ih (i+1) _ _ (by omega) ⟨by omega,by simpa using p2,p3.set _ (by omega),s2,?_⟩)
    rw[val_set_take (by omega),val_take_succ he,val_take_end (by omega),Nat.pow_succ]
    rw[←Nat.add_zero (t%4294967296)]at s1
    have:=sub_carry (e:=0) p5 s1
    rw[Nat.mul_zero,Nat.add_zero]at this
    exact this
  ·obtain rfl:i=x.length:=by omega
   clear ih
   have hc0:c=0:=by
    rw[val_take_all (by omega),val_take_all hll,val_take_all (Nat.le_refl _)]at p5
    have:=val_lt p3
    rw[p2]at this
    rcases Nat.eq_zero_or_pos c with h|h
    ·exact h
    ·have:c=1:=by omega
     subst this
     omega
   subst hc0
   have hV:val o=val x-val y:=by
    rw[val_take_all (by omega),val_take_all hll,val_take_all (Nat.le_refl _)]at p5
    omega
   clear p5 p4
   rw[←p2]
   (repeat' (first|(refine CmpP.go (fun hc => ?_) (fun hc => ?_)<;>first|(exfalso;omega)|(conv=>whnf))|(refine AKM.x ?_;conv=>whnf)))
   refine CalP.walk 1000 N.nat_cut rfl rfl ?_
   (repeat' (refine AKM.x ?_;conv=>whnf))
   refine AKM.loop1 (fun n=>n) (fun (n:Nat)=>n≤(o).length ∧ ∀ i,n≤i→i<(o).length→(o)[i]? = some 0) (fun n=>[(3,.int .i64 n)]) (fun _=>[]) [] [] (o).length (by first|exact (by (conv=>whnf);exact ⟨rfl,rfl,rfl⟩)|(simp only[List.length_set,List.length_replicate];exact (by (conv=>whnf);exact ⟨rfl,rfl,rfl⟩))) ⟨Nat.le_refl _,fun i h1 h2=>by omega⟩ ?_
   intro n ⟨p1,p2⟩ ih
   rcases n with _|n
   ·(repeat' (first|(refine CmpP.go (fun hc => ?_) (fun hc => ?_)<;>first|(exfalso;omega)|(conv=>whnf))|(refine AKM.x ?_;conv=>whnf)))
    refine Bds.up 0 (by omega) (by omega) ?_
    (conv=>whnf)
    refine ⟨rfl,_,rfl,?_⟩
    (conv=>whnf)
    have hm:=p1
    have hct:=cut_found (l:=o) (by assumption) p1 p2 (Or.inl rfl)
    clear ih p1 p2
    (refine SnR.part (enc:=e32) (fun _=>rfl) (by omega) ?_;(conv=>whnf);exact FinP.go (by rw[←hV,←hct];rfl) (by simp only[Clean,true_and];exact cl_dig _))
   ·have e1:((n+1:Nat):Int)-1=n:=by omega
    (repeat' (first|(refine CmpP.go (fun hc => ?_) (fun hc => ?_)<;>first|(exfalso;omega)|(conv=>whnf))|(refine Req.go ?_ ?_;omega;conv=>whnf)|(refine OpP.sub ?_ ?_;omega;conv=>whnf)|(refine LdR.digi (by assumption) ?_ (fun v hv hb => ?_);omega;conv=>whnf)|(refine AKM.x ?_;conv=>whnf)))
    ·rw[e1]
     exact AKM.back [] (by (conv=>whnf);exact ⟨rfl,rfl,rfl⟩) (ih n (by omega) ⟨by omega,fun i h1 h2=>by
      by_cases h:i=n
      ·subst h
       rw[e1,Int.toNat_natCast]at hv
       rw[hv];congr 1;omega
      ·exact p2 i (by omega) h2⟩)
    ·refine Bds.up (n+1) (by omega) (by omega) ?_
     (conv=>whnf)
     refine ⟨rfl,_,rfl,?_⟩
     (conv=>whnf)
     rw[e1,Int.toNat_natCast]at hv
     have hm:=p1
     have hct:=cut_found (l:=o) (by assumption) p1 p2 (Or.inr ⟨_,hv,by omega⟩)
     clear ih p1 p2 hv
     (refine SnR.part (enc:=e32) (fun _=>rfl) (by omega) ?_;(conv=>whnf);exact FinP.go (by rw[←hV,←hct];rfl) (by simp only[Clean,true_and];exact cl_dig _))
theorem ev_nat_Mul (N:NatGLib L) (a b:List Nat) (q1 q2:Bool) (hA:Dig a) (hB:Dig b) (lab:a.length+b.length≤1099511627776):Ev L 70 [.sl q1 (a.map e32),.sl q2 (b.map e32)] (.sl false ((dg (val a*val b)).map e32)):=by
 have l1:=dg_len_val hA
 have l2:=dg_len_val hB
 have d1:=dig_dg (val a)
 have d2:=dig_dg (val b)
 have v1:=val_dg (val a)
 have v2:=val_dg (val b)
 refine Ev.x N.nat_Mul rfl rfl ?_
 have hz : ∀ p:Prop,((dg (val a)).length:Int)=0∨((dg (val b)).length:Int)=0→FinP (.sl false []) (.sl false ((dg (val a*val b)).map e32)):=fun _ h=>by
  have:val a*val b=0:=by
   rcases h with h|h
   ·have:dg (val a)=[]:=List.eq_nil_of_length_eq_zero (by omega)
    rw[dg_eq_nil.1 this,Nat.zero_mul]
   ·have:dg (val b)=[]:=List.eq_nil_of_length_eq_zero (by omega)
    rw[dg_eq_nil.1 this,Nat.mul_zero]
  exact FinP.go (by rw[this,dg_zero];rfl) (by simp only[Clean,true_and];exact cl_dig _)
 (repeat' (first|(refine CmpP.go (fun hc => ?_) (fun hc => ?_)<;>first|(exfalso;omega)|(conv=>whnf))|(refine OpP.add ?_ ?_;omega;conv=>whnf)|(refine LenP.go ?_;conv=>whnf)|(refine AKM.x ?_;conv=>whnf)|(refine CalP.ro (ro_cut N a _ hA (by omega)) ?_;conv=>whnf)|(refine CalP.ro (ro_cut N b _ hB (by omega)) ?_;conv=>whnf)))
 ·exact hz True (Or.inl hc)
 ·exact hz True (Or.inr hc)
 ·clear hz
  generalize dg (val a)=x at *
  generalize dg (val b)=y at *
  rw[←v1,←v2]
  have hxy:x.length+y.length≤1099511627776:=by omega
  clear v1 v2 hA hB lab l1 l2
  refine MkR.go (enc:=e32) 0 (x.length+y.length) rfl (by omega) (by omega) ?_
  (conv=>whnf)
  (repeat' (refine LenP.go ?_;conv=>whnf))
  refine AKM.loop2 (fun i _=>x.length-i) (fun (i:Nat) (o:List Nat)=>i≤x.length∧o.length=x.length+y.length∧Dig o∧val o=val (x.take i)*val y ∧ ∀ k,i+y.length≤k→k<o.length→o[k]? = some 0) (fun i o=>[(34,.int .i64 i)]) (fun i o=>[(31,31,.rw 1 (o.map e32))]) [] [] 0 (List.replicate (x.length+y.length) 0) (by (conv=>whnf);exact ⟨rfl,rfl,rfl⟩) ⟨by omega,by simp,dig_zeros _,by simp [val,val_zeros],fun k h1 h2=>by simp at h2;simp [h2]⟩ ?_
  intro i O ⟨p1,p2,p3,p4,p5⟩ ih
  by_cases hi:i<x.length
  ·obtain ⟨d,hd⟩ : ∃ d,x[i]? = some d:=⟨_,List.getElem?_eq_getElem hi⟩
   have hdb:=d1.at hd
   (repeat' (first|(refine CmpP.go (fun hc => ?_) (fun hc => ?_)<;>first|(exfalso;omega)|(conv=>whnf))|(refine OpP.add ?_ ?_;omega;conv=>whnf)|(refine LenP.go ?_;conv=>whnf)|(refine RdP.at (by assumption) ?_ rfl ?_;omega;conv=>whnf)|(refine AKM.x ?_;conv=>whnf)))
   ·refine AKM.back [] (by (conv=>whnf);exact ⟨rfl,rfl,rfl⟩) (ih (i+1) O (by omega) ⟨by omega,p2,p3,?_,fun k h1 h2=>p5 k (by omega) h2⟩)
    rw[val_take_succ hd,p4,show d=0 by omega,Nat.mul_zero,Nat.add_zero]
   ·refine AKM.loop3 (fun j _ _=>y.length-j) (fun (j:Nat) (o:List Nat) (c:Nat)=>j≤y.length∧o.length=x.length+y.length∧Dig o∧c<4294967296∧val o+4294967296^(i+j)*c=val O+4294967296^i*(d*val (y.take j)) ∧ ∀ k,i+j≤k→o[k]? = O[k]?) (fun j o c=>[(10,.int .u64 (c:Int)),(43,.int .i64 j)]) (fun j o c=>[(31,31,.rw 1 (o.map e32))]) [] [] 0 O 0 (by (conv=>whnf);exact ⟨rfl,rfl,rfl⟩) ⟨by omega,p2,p3,by omega,by simp [val],fun _ _=>rfl⟩ ?_
    intro j o c ⟨r1,r2,r3,r4,r5,r6⟩ jh
    have e1:((i:Int)+j).toNat=i+j:=by omega
    by_cases hj:j<y.length
    ·obtain ⟨w,hw⟩ : ∃ w,y[j]? = some w:=⟨_,List.getElem?_eq_getElem hj⟩
     have hwb:=d2.at hw
     have hm:=mul_le_dig hdb hwb
     (repeat' (first|(refine CmpP.go (fun hc => ?_) (fun hc => ?_)<;>first|(exfalso;omega)|(conv=>whnf))|(refine Req.go ?_ ?_;omega;conv=>whnf)|(refine OpP.add ?_ ?_;omega;conv=>whnf)|(refine OpP.nadd ?_ ?_;omega;conv=>whnf)|(refine OpP.nmul ?_ ?_;omega;conv=>whnf)|(refine ConvP.u64 ?_ ?_;omega;conv=>whnf)|(refine ConvP.n32 ?_;conv=>whnf)|(refine RdP.at (by assumption) ?_ rfl ?_;omega;conv=>whnf)|(refine LdR.dig (by assumption) ?_ (fun v hv hb => ?_);omega;conv=>whnf)|(refine AKM.x ?_;conv=>whnf)))
     refine StR.digo (i+j) (by omega) (by omega) ?_
     (conv=>whnf)
     (repeat' (first|(refine OpP.add ?_ ?_;omega;conv=>whnf)|(refine OpP.nshr32 ?_;conv=>whnf)))
     refine AKM.back [] (by (conv=>whnf);exact ⟨rfl,rfl,rfl⟩) (jh (j+1) _ _ (by omega) ⟨by omega,by simpa using r2,r3.set _ (by omega),by omega,?_,?_⟩)
     ·have h1:=val_set (v:=(d*w+v+c)%4294967296) hv
      have h2:=carry_step 0 (4294967296^(i+j)) (d*w+v+c)
      rw[val_take_succ hw,show i+(j+1)=i+j+1 by omega,Nat.pow_succ (4294967296) (i+j)]
      have h3:4294967296^i*(d*(val (y.take j)+4294967296^j*w))=4294967296^i*(d*val (y.take j))+4294967296^(i+j)*(d*w):=by rw[Nat.pow_add];grind
      rw[h3]
      generalize 4294967296^(i+j)=P at *
      rw[Nat.mul_add P,Nat.mul_add P]at h2
      omega
     ·intro k hk
      rw[List.getElem?_set_ne (by omega)]
      exact r6 k (by omega)
    ·obtain rfl:j=y.length:=by omega
     clear jh
     (repeat' (first|(refine CmpP.go (fun hc => ?_) (fun hc => ?_)<;>first|(exfalso;omega)|(conv=>whnf))|(refine Req.go ?_ ?_;omega;conv=>whnf)|(refine OpP.add ?_ ?_;omega;conv=>whnf)|(refine ConvP.n32i ?_ ?_;omega;conv=>whnf)|(refine LenP.go ?_;conv=>whnf)|(refine AKM.x ?_;conv=>whnf)))
     have hz:=r6 (i+y.length) (by omega)
     rw[p5 (i+y.length) (by omega) (by omega)]at hz
     refine StR.digo (i+y.length) (by omega) (by omega) ?_
     (conv=>whnf)
     (repeat' (refine OpP.add ?_ ?_;omega;conv=>whnf))
     refine AKM.back [] (by (conv=>whnf);exact ⟨rfl,rfl,rfl⟩) (ih (i+1) _ (by omega) ⟨by omega,by simpa using r2,r3.set _ (by omega),?_,?_⟩)
     ·have h1:=val_set (v:=c) hz
      rw[Nat.mul_zero,Nat.add_zero]at h1
      rw[h1,r5,p4,val_take_all (Nat.le_refl _),val_take_succ hd,Nat.add_mul,Nat.mul_assoc]
     ·intro k h1 h2
      rw[List.length_set]at h2
      rw[List.getElem?_set_ne (by omega),r6 k (by omega)]
      exact p5 k (by omega) (by omega)
  ·obtain rfl:i=x.length:=by omega
   clear ih
   rw[val_take_all (Nat.le_refl _)]at p4
   rw[←p4,←p2]
   (repeat' (first|(refine CmpP.go (fun hc => ?_) (fun hc => ?_)<;>first|(exfalso;omega)|(conv=>whnf))|(refine AKM.x ?_;conv=>whnf)))
   clear p5
   refine CalP.walk 1000 N.nat_cut rfl rfl ?_
   (repeat' (refine AKM.x ?_;conv=>whnf))
   refine AKM.loop1 (fun n=>n) (fun (n:Nat)=>n≤(O).length ∧ ∀ i,n≤i→i<(O).length→(O)[i]? = some 0) (fun n=>[(3,.int .i64 n)]) (fun _=>[]) [] [] (O).length (by first|exact (by (conv=>whnf);exact ⟨rfl,rfl,rfl⟩)|(simp only[List.length_set,List.length_replicate];exact (by (conv=>whnf);exact ⟨rfl,rfl,rfl⟩))) ⟨Nat.le_refl _,fun i h1 h2=>by omega⟩ ?_
   intro n ⟨p1,p2⟩ ih
   rcases n with _|n
   ·(repeat' (first|(refine CmpP.go (fun hc => ?_) (fun hc => ?_)<;>first|(exfalso;omega)|(conv=>whnf))|(refine AKM.x ?_;conv=>whnf)))
    refine Bds.up 0 (by omega) (by omega) ?_
    (conv=>whnf)
    refine ⟨rfl,_,rfl,?_⟩
    (conv=>whnf)
    have hm:=p1
    have hct:=cut_found (l:=O) (by assumption) p1 p2 (Or.inl rfl)
    clear ih p1 p2
    (refine SnR.part (enc:=e32) (fun _=>rfl) (by omega) ?_;(conv=>whnf);exact FinP.go (by rw[←hct];rfl) (by simp only[Clean,true_and];exact cl_dig _))
   ·have e1:((n+1:Nat):Int)-1=n:=by omega
    (repeat' (first|(refine CmpP.go (fun hc => ?_) (fun hc => ?_)<;>first|(exfalso;omega)|(conv=>whnf))|(refine Req.go ?_ ?_;omega;conv=>whnf)|(refine OpP.sub ?_ ?_;omega;conv=>whnf)|(refine LdR.digi (by assumption) ?_ (fun v hv hb => ?_);omega;conv=>whnf)|(refine AKM.x ?_;conv=>whnf)))
    ·rw[e1]
     exact AKM.back [] (by (conv=>whnf);exact ⟨rfl,rfl,rfl⟩) (ih n (by omega) ⟨by omega,fun i h1 h2=>by
      by_cases h:i=n
      ·subst h
       rw[e1,Int.toNat_natCast]at hv
       rw[hv];congr 1;omega
      ·exact p2 i (by omega) h2⟩)
    ·refine Bds.up (n+1) (by omega) (by omega) ?_
     (conv=>whnf)
     refine ⟨rfl,_,rfl,?_⟩
     (conv=>whnf)
     rw[e1,Int.toNat_natCast]at hv
     have hm:=p1
     have hct:=cut_found (l:=O) (by assumption) p1 p2 (Or.inr ⟨_,hv,by omega⟩)
     clear ih p1 p2 hv
     (refine SnR.part (enc:=e32) (fun _=>rfl) (by omega) ?_;(conv=>whnf);exact FinP.go (by rw[←hct];rfl) (by simp only[Clean,true_and];exact cl_dig _))
end Go.Eng

namespace Go.Eng
open F
section
variable {K:AV→Prop} {a b s:Nat} {k':IntKind}
theorem OpP.sh4 (hs:s≤32) (hk:K (.int .u32 ((shLo a s:Nat):Int))):OpP .shl .u32 (a:Int) k' (s:Int) K:=by
 refine OpP.nshlv (show s≤IntKind.u32.bits from hs) ?_
 rw[wrap_u32,←shLo_def];exact hk
theorem OpP.sh8 (hs:s≤64) (h:a*2^s≤18446744073709551615) (hk:K (.int .u64 ((a*2^s:Nat):Int))):OpP .shl .u64 (a:Int) k' (s:Int) K:=by
 refine OpP.nshlv (show s≤IntKind.u64.bits from hs) ?_
 rw[IntWalk.u64_in _ (by omega)];exact hk
theorem OpP.or4 (n:Nat) (hx:a%2^n=0) (hy:b<2^n) (h:a+b≤4294967295) (hk:K (.int .u32 ((a+b:Nat):Int))):OpP .or .u32 (a:Int) .u32 (b:Int) K :=
 OpP.norv n hx hy (show a+b<4294967296 by omega) (IntWalk.u32_in _ (by omega)) hk
theorem OpP.or4r (n:Nat) (hx:b%2^n=0) (hy:a<2^n) (h:a+b≤4294967295) (hk:K (.int .u32 ((a+b:Nat):Int))):OpP .or .u32 (a:Int) .u32 (b:Int) K:=by
 have e:intBin .or .u32 (a:Int) .u32 (b:Int)=intBin .or .u32 (b:Int) .u32 (a:Int):=by
  simp only[intBin,if_true,BitVec.or_comm]
 rw[Nat.add_comm]at hk h
 obtain ⟨v,h1,h2⟩:=OpP.or4 (K:=K) n hx hy h hk
 exact ⟨v,by rw[e];exact h1,h2⟩
theorem OpP.sr4 (hs:s≤32) (hk:K (.int .u32 ((a/2^s:Nat):Int))):OpP .shr .u32 (a:Int) k' (s:Int) K:=OpP.nshrv (show s≤IntKind.u32.bits from hs) hk
theorem ConvP.hi {K:Int→Prop} (hk:K ((shHi a s:Nat):Int)) (h:shHi a s≤4294967295):ConvP .u32 ((a*2^s/4294967296:Nat):Int) K:=by
 rw[←shHi_def]
 exact ConvP.n32i h hk
end
attribute [local irreducible] AKM CmpP Req OpP UnP ConvP RdP LdR StR MkR LenP AppR AppN CpyR RowP SnR Bds SlS CallP CalP FinP pw LdM GetM SetM PutM MkM AppM SnM FlP CallR
set_option maxHeartbeats 1000000
variable {L:Lib}
def LiftIs (a:List Nat) (s:Nat) (o:List Nat):Prop:=Dig o∧(a.length≤o.length∧o.length≤a.length+1)∧(val a*2^s<4294967296^o.length→val o=val a*2^s)
theorem lift_end {a o:List Nat} {s lo:Nat} (hD:Dig o) (hl:o.length=a.length) (h:val (o.take a.length)+4294967296^a.length*lo=val (a.take a.length)*2^s):LiftIs a s o:=by
 refine ⟨hD,by omega,fun hlt => ?_⟩
 rw[val_take_all (by omega),val_take_all (Nat.le_refl _)]at h
 rw[hl]at hlt
 have:lo=0:=by
  rcases Nat.eq_zero_or_pos lo with h0|h0
  ·exact h0
  ·have:4294967296^a.length*1≤4294967296^a.length*lo:=Nat.mul_le_mul_left _ h0
   omega
 subst this
 omega
theorem lift_end2 {a o:List Nat} {s lo:Nat} (hD:Dig o) (hlo:lo<4294967296) (hl:o.length=a.length+1) (h:val (o.take a.length)+4294967296^a.length*lo=val (a.take a.length)*2^s):LiftIs a s (o.set a.length lo):=by
 refine ⟨hD.set _ hlo,by simp;omega,fun _ => ?_⟩
 have h1:=val_set_take (v:=lo) (show a.length<o.length by omega)
 rw[val_take_all (by simp;omega),h,val_take_all (Nat.le_refl _)]at h1
 exact h1
theorem ev_nat_lift (N:NatGLib L) (a:List Nat) (q:Bool) (s n:Nat) (hA:Dig a) (hs:s≤31) (hn:a.length≤n∧n≤a.length+1) (la:a.length≤1099511627776) : ∃ r,Ev L 71 [.sl q (a.map e32),.int .u64 (s:Int),.int .i64 (n:Int)] r ∧ ∃ o,LiftIs a s o∧o.length=n∧r = .sl false (o.map e32):=by
 refine Ev.xE N.nat_lift rfl rfl ?_
 (repeat' (refine AKM.x ?_;conv=>whnf))
 refine MkR.go (enc:=e32) 0 n rfl rfl (by omega) ?_
 (conv=>whnf)
 (repeat' (refine LenP.go ?_;conv=>whnf))
 refine AKM.loop3 (fun i _ _=>a.length-i) (fun (i:Nat) (o:List Nat) (lo:Nat)=>i≤a.length∧o.length=n∧Dig o∧lo<2^s∧val (o.take i)+4294967296^i*lo=val (a.take i)*2^s) (fun i o lo=>[(8,.int .u32 (lo:Int)),(15,.int .i64 i)]) (fun i o lo=>[(71012,71012,.rw 1 (o.map e32))]) [] [] 0 (List.replicate n 0) 0 (by (conv=>whnf);exact ⟨rfl,rfl,rfl⟩) ⟨by omega,by simp,dig_zeros _,Nat.two_pow_pos s,by simp [val]⟩ ?_
 intro i o lo ⟨p1,p2,p3,p4,p5⟩ ih
 have hps:=pow_s_le (s:=s) (by omega)
 by_cases hi:i<a.length
 ·obtain ⟨d,hd⟩ : ∃ d,a[i]? = some d:=⟨_,List.getElem?_eq_getElem hi⟩
  have hdb:=hA.at hd
  obtain ⟨f1,f2,f3,f4⟩:=sh_facts (s:=s) hdb (by omega)
  (repeat' (first|(refine CmpP.go (fun hc => ?_) (fun hc => ?_)<;>first|(exfalso;omega)|(conv=>whnf))|(refine RdP.at (by assumption) ?_ rfl ?_;omega;conv=>whnf)|(refine AKM.x ?_;conv=>whnf)))
  refine OpP.sh4 (by omega) ?_
  (conv=>whnf)
  skip
  refine OpP.or4 s f1 p4 (by omega) ?_
  (conv=>whnf)
  (repeat' (first|(refine Req.go ?_ ?_;omega;conv=>whnf)|fail))
  refine StR.dig (by omega) ?_
  (conv=>whnf)
  (repeat' (refine ConvP.u64 ?_ ?_;omega;conv=>whnf))
  refine OpP.sh8 (by omega) f4 ?_
  (conv=>whnf)
  (repeat' (first|(refine OpP.add ?_ ?_;omega;conv=>whnf)|(refine OpP.nshr32 ?_;conv=>whnf)|(refine ConvP.n32i ?_ ?_;omega;conv=>whnf)))
  rw[←shHi_def]
  refine AKM.back [] (by (conv=>whnf);exact ⟨rfl,rfl,rfl⟩) (ih (i+1) _ _ (by omega) ⟨by omega,by simpa using p2,p3.set _ (by omega),f2,?_⟩)
  rw[val_set_take (by omega),val_take_succ hd,Nat.pow_succ]
  exact lift_step p5
 ·obtain rfl:i=a.length:=by omega
  clear ih
  (repeat' (first|(refine CmpP.go (fun hc => ?_) (fun hc => ?_)<;>first|(exfalso;omega)|(conv=>whnf))|(refine Req.go ?_ ?_;omega;conv=>whnf)|(refine LenP.go ?_;conv=>whnf)|(refine AKM.x ?_;conv=>whnf)))
  ·refine StR.dig (by omega) ?_
   (conv=>whnf)
   skip
   refine ⟨_,?_,_,lift_end2 p3 (by omega) (by omega) p5,by simpa using p2,rfl⟩
   (conv=>whnf)
   refine SnR.all (enc:=e32) (fun _=>rfl) rfl (by simp [p2]) ?_
   (conv=>whnf)
   exact FinP.go rfl (by simp only[Clean,true_and];exact cl_dig _)
  ·refine ⟨_,?_,_,lift_end p3 (by omega) p5,p2,rfl⟩
   (conv=>whnf)
   refine SnR.all (enc:=e32) (fun _=>rfl) rfl (by simp [p2]) ?_
   (conv=>whnf)
   exact FinP.go rfl (by simp only[Clean,true_and];exact cl_dig _)
theorem ev_nat_lower (N:NatGLib L) (a:List Nat) (q:Bool) (s:Nat) (hA:Dig a) (hs:s≤31) (la:a.length≤1099511627776) : ∃ r,Ev L 72 [.sl q (a.map e32),.int .u64 (s:Int)] r ∧ ∃ o,Dig o∧o.length=a.length∧val o=val a/2^s∧r = .sl false (o.map e32):=by
 refine Ev.xE N.nat_lower rfl rfl ?_
 (repeat' (first|(refine LenP.go ?_;conv=>whnf)|(refine AKM.x ?_;conv=>whnf)))
 refine MkR.go (enc:=e32) 0 a.length rfl rfl (by omega) ?_
 (conv=>whnf)
 (repeat' (first|(refine OpP.sub ?_ ?_;omega;conv=>whnf)|(refine LenP.go ?_;conv=>whnf)))
 refine AKM.loop3 (fun n _ _=>n) (fun (n:Nat) (o:List Nat) (hi:Nat)=>n≤a.length∧o.length=a.length∧Dig o∧hi=val (a.drop n)%2^s*2^(32-s)∧val (o.drop n)=val (a.drop n)/2^s) (fun n o hi=>[(6,.int .u32 (hi:Int)),(7,.int .i64 ((n:Int)-1))]) (fun n o hi=>[(10,10,.rw 1 (o.map e32))]) [] [] a.length (List.replicate a.length 0) 0 (by (conv=>whnf);exact ⟨rfl,rfl,rfl⟩) ⟨by omega,by simp,dig_zeros _,by rw[List.drop_of_length_le (Nat.le_refl _)];simp [val],by rw[List.drop_of_length_le (Nat.le_refl _),List.drop_of_length_le (by simp)];simp [val]⟩ ?_
 intro n o hi ⟨p1,p2,p3,p4,p5⟩ ih
 rcases n with _|n
 ·(repeat' (first|(refine CmpP.go (fun hc => ?_) (fun hc => ?_)<;>first|(exfalso;omega)|(conv=>whnf))|(refine AKM.x ?_;conv=>whnf)))
  rw[List.drop_zero,List.drop_zero]at p5
  refine ⟨_,?_,_,p3,p2,p5,rfl⟩
  (conv=>whnf)
  refine SnR.all (enc:=e32) (fun _=>rfl) rfl p2.symm ?_
  (conv=>whnf)
  exact FinP.go rfl (by simp only[Clean,true_and];exact cl_dig _)
 ·have e1:((n+1:Nat):Int)-1=n:=by omega
  rw[e1]
  obtain ⟨d,hd⟩ : ∃ d,a[n]? = some d:=⟨_,List.getElem?_eq_getElem (by omega)⟩
  have hdb:=hA.at hd
  obtain ⟨f1,f2,f3⟩:=lower_facts (V:=val (a.drop (n+1))) hdb (show s≤32 by omega)
  obtain ⟨g1,g2,g3,g4⟩:=sh_facts hdb (show 32-s≤32 by omega)
  rw[←p4]at f2 f3
  (repeat' (first|(refine CmpP.go (fun hc => ?_) (fun hc => ?_)<;>first|(exfalso;omega)|(conv=>whnf))|(refine RdP.at (by assumption) ?_ rfl ?_;omega;conv=>whnf)|(refine AKM.x ?_;conv=>whnf)))
  refine OpP.sr4 (by omega) ?_
  (conv=>whnf)
  skip
  refine OpP.or4r (32-s) f2 f1 (by omega) ?_
  (conv=>whnf)
  (repeat' (first|(refine Req.go ?_ ?_;omega;conv=>whnf)|fail))
  refine StR.dig (by omega) ?_
  (conv=>whnf)
  (repeat' (first|(refine OpP.nsubw ?_ ?_;omega;conv=>whnf)|(refine ConvP.u64 ?_ ?_;omega;conv=>whnf)|(refine RdP.at (by assumption) ?_ rfl ?_;omega;conv=>whnf)))
  rw[show w64s 32 s=32-s by rw[w64s_def];omega]
  refine OpP.sh8 (by omega) g4 ?_
  (conv=>whnf)
  (repeat' (first|(refine OpP.sub ?_ ?_;omega;conv=>whnf)|(refine ConvP.n32 ?_;conv=>whnf)))
  rw[lower_high (by omega)]
  refine AKM.back [] (by (conv=>whnf);exact ⟨rfl,rfl,rfl⟩) (ih n _ _ (by omega) ⟨by omega,by simpa using p2,p3.set _ (by omega),?_,?_⟩)
  ·rw[val_getD_drop hd,lower_mod (by omega)]
  ·rw[val_getD_drop (l:=o.set n (d/2^s+hi)) (d:=d/2^s+hi) (by rw[List.getElem?_set_self (by omega)]),List.drop_set_of_lt (by omega),p5,val_getD_drop hd,lower_step (by omega),←p4]
theorem len_tab : ∀ n<256,(List.replicate 1 0++List.replicate 1 1++List.replicate 2 2++List.replicate 4 3++List.replicate 8 4++List.replicate 16 5++List.replicate 32 6++List.replicate 64 7++List.replicate 128 8)[n]? = some (blen n):=by decide +kernel
theorem ev_Len32 (N:NatGLib L) (x:Nat) (hx:x<4294967296):Ev L 63 [.int .u32 (x:Int)] (.int .i64 (blen x:Int)):=by
 have hbl : ∀ y<256,blen y≤8:=fun y h=>blen_le (k:=8) h
 refine Ev.x N.math_bits_Len32 rfl rfl ?_
 (repeat' (first|(refine CmpP.go (fun hc => ?_) (fun hc => ?_)<;>first|(exfalso;omega)|(conv=>whnf))|(refine OpP.add ?_ ?_;omega;conv=>whnf)|(refine OpP.nshr16 ?_;conv=>whnf)|(refine OpP.nshr8 ?_;conv=>whnf)|(refine ConvP.n8 ?_ ?_;omega;conv=>whnf)|(refine AKM.x ?_;conv=>whnf)))
 ·have hb8:=hbl (x/65536/256) (by omega)
  refine TbP.go (len_tab _ (by omega)) ?_
  (conv=>whnf)
  (repeat' (first|(refine OpP.add ?_ ?_;omega;conv=>whnf)|(refine ConvP.i64 ?_ ?_;omega;conv=>whnf)))
  have h1:blen (x/65536)+16=blen x:=blen_div 16 (x:=x) (by omega)
  have h2:blen (x/65536/256)+8=blen (x/65536):=blen_div 8 (x:=x/65536) (by omega)
  refine FinP.i ?_
  rw[←h1,←h2]
  omega
 ·have hb8:=hbl (x/65536) (by omega)
  refine TbP.go (len_tab _ (by omega)) ?_
  (conv=>whnf)
  (repeat' (first|(refine OpP.add ?_ ?_;omega;conv=>whnf)|(refine ConvP.i64 ?_ ?_;omega;conv=>whnf)))
  have h1:blen (x/65536)+16=blen x:=blen_div 16 (x:=x) (by omega)
  refine FinP.i ?_
  rw[←h1]
  omega
 ·have hb8:=hbl (x/256) (by omega)
  refine TbP.go (len_tab _ (by omega)) ?_
  (conv=>whnf)
  (repeat' (first|(refine OpP.add ?_ ?_;omega;conv=>whnf)|(refine ConvP.i64 ?_ ?_;omega;conv=>whnf)))
  have h2:blen (x/256)+8=blen x:=blen_div 8 (x:=x) (by omega)
  refine FinP.i ?_
  rw[←h2]
  omega
 ·have hb8:=hbl (x) (by omega)
  refine TbP.go (len_tab _ (by omega)) ?_
  (conv=>whnf)
  (repeat' (first|(refine OpP.add ?_ ?_;omega;conv=>whnf)|(refine ConvP.i64 ?_ ?_;omega;conv=>whnf)))
  refine FinP.i ?_
  omega
theorem ev_LZ32 (N:NatGLib L) (x:Nat) (hx:x<4294967296):Ev L 64 [.int .u32 (x:Int)] (.int .i64 ((32-blen x:Nat):Int)):=by
 have h:=blen_le (k:=32) hx
 refine Ev.x N.math_bits_LeadingZeros32 rfl rfl ?_
 (repeat' (first|(refine OpP.sub ?_ ?_;omega;conv=>whnf)|(refine AKM.x ?_;conv=>whnf)|(refine CallP.go (ev_Len32 N x hx) ?_;conv=>whnf)))
 refine FinP.i ?_
 omega
end Go.Eng

namespace Go.Eng
open F
attribute [local irreducible] AKM CmpP Req OpP UnP ConvP RdP LdR StR MkR LenP AppR AppN CpyR RowP SnR Bds SlS CallP CalP FinP pw LdM GetM SetM PutM MkM AppM SnM FlP CallR
set_option maxHeartbeats 4000000
variable {L:Lib}
theorem cl_sl (l:List Nat):Clean (.sl false (l.map e32)):=by
 simp only[Clean,true_and];exact cl_dig l
theorem apX_rw {M:Mem} {v:AV} {ky t z off len s:Nat} {l:List Nat} (hv:v = .row ky t z off len) (h:mget M ky=some (s,.rw 1 (l.map e32))):apX M v=none:=by
 subst hv
 unfold apX
 split
 ·rename_i e
  simp only[AV.row.injEq]at e
  obtain ⟨rfl,_⟩:=e
  rw[h]
  cases l with
  | nil=>rfl
  | cons a l=>cases l<;>rfl
 ·rfl
theorem ev_r1_Trim (N:RefGLib L) (l:List Nat) (q:Bool) (hD:Dig l) (hl:l.length≤1099511627776):Ev L 101 [.sl q (l.map e32)] (.sl false ((dg (val l)).map e32)):=by
 refine Ev.x N.ref01_Trim rfl rfl ?_
 (repeat' (first|(refine LenP.go ?_;conv=>whnf)|(refine AKM.x ?_;conv=>whnf)))
 refine AKM.loop1 (fun n=>n) (fun (n:Nat)=>n≤l.length ∧ ∀ i,n≤i→i<l.length→l[i]? = some 0) (fun n=>[(3,.int .i64 n)]) (fun _=>[]) [] [] l.length (by (conv=>whnf);exact ⟨rfl,rfl,rfl⟩) ⟨Nat.le_refl _,fun i h1 h2=>by omega⟩ ?_
 intro n ⟨p1,p2⟩ ih
 rcases n with _|n
 ·have hv:=cut_found hD p1 p2 (Or.inl rfl)
  rw[←hv]
  clear ih
  (repeat' (first|(refine CmpP.go (fun hc => ?_) (fun hc => ?_)<;>first|(exfalso;omega)|(conv=>whnf))|(refine AKM.x ?_;conv=>whnf)))
  refine SlS.to (k:=0) (fun _=>rfl) (by omega) ?_
  (conv=>whnf)
  refine AppN.many (enc:=e32) (fun _=>rfl) (by rw[List.length_take];omega) (by rw[List.length_take];omega) ?_
  (conv=>whnf)
  (repeat' (refine SnR.all (fun _=>rfl) rfl ?_ ?_;(first|rfl|simp);conv=>whnf))
  exact FinP.go rfl (cl_sl _)
 ·have e1:((n+1:Nat):Int)-1=n:=by omega
  (repeat' (first|(refine CmpP.go (fun hc => ?_) (fun hc => ?_)<;>first|(exfalso;omega)|(conv=>whnf))|(refine OpP.sub ?_ ?_;omega;conv=>whnf)|(refine RdP.digi (by assumption) ?_ (fun e he hb => ?_);omega;conv=>whnf)|(refine AKM.x ?_;conv=>whnf)))
  ·rw[e1]
   exact AKM.back [] (by (conv=>whnf);exact ⟨rfl,rfl,rfl⟩) (ih n (by omega) ⟨by omega,fun i h1 h2=>by
    by_cases h:i=n
    ·subst h
     rw[e1,Int.toNat_natCast]at he
     rw[he];congr 1;omega
    ·exact p2 i (by omega) h2⟩)
  ·rw[e1,Int.toNat_natCast]at he
   have hv:=cut_found hD p1 p2 (Or.inr ⟨e,he,by omega⟩)
   rw[←hv]
   clear ih
   refine SlS.to (k:=n+1) (fun _=>rfl) (by omega) ?_
   (conv=>whnf)
   refine AppN.many (enc:=e32) (fun _=>rfl) (by rw[List.length_take];omega) (by rw[List.length_take];omega) ?_
   (conv=>whnf)
   (repeat' (refine SnR.all (fun _=>rfl) rfl ?_ ?_;(first|rfl|simp);conv=>whnf))
   exact FinP.go rfl (cl_sl _)
theorem ev_r1_Compare (N:RefGLib L) (a b:List Nat) (q1 q2:Bool) (hA:Dig a) (hB:Dig b) (la:a.length≤1099511627776) (lb:b.length≤1099511627776):Ev L 102 [.sl q1 (a.map e32),.sl q2 (b.map e32)] (.int .i64 (cmpS (val a) (val b))):=by
 have t1:=fun q=>ev_r1_Trim N a q hA la
 have t2:=fun q=>ev_r1_Trim N b q hB lb
 have l1:=dg_len_val hA
 have l2:=dg_len_val hB
 have d1:=dig_dg (val a)
 have d2:=dig_dg (val b)
 refine Ev.x N.ref01_Compare rfl rfl ?_
 by_cases hlen:(dg (val a)).length=(dg (val b)).length
 ·have v1:=val_dg (val a)
  have v2:=val_dg (val b)
  generalize dg (val a)=X at *
  generalize dg (val b)=Y at *
  (repeat' (first|(refine CmpP.go (fun hc => ?_) (fun hc => ?_)<;>first|(exfalso;omega)|(conv=>whnf))|(refine OpP.sub ?_ ?_;omega;conv=>whnf)|(refine LenP.go ?_;conv=>whnf)|(refine AKM.x ?_;conv=>whnf)|(refine CallP.go (t1 _) ?_;conv=>whnf)|(refine CallP.go (t2 _) ?_;conv=>whnf)))
  refine AKM.loop1 (fun n=>n) (fun (n:Nat)=>n≤X.length∧X.drop n=Y.drop n) (fun n=>[(5,.int .i64 ((n:Int)-1))]) (fun _=>[]) [] [] X.length (by (conv=>whnf);exact ⟨rfl,rfl,rfl⟩) ⟨Nat.le_refl _,by rw[List.drop_of_length_le (Nat.le_refl _),List.drop_of_length_le (by omega)]⟩ ?_
  intro n ⟨p1,p2⟩ ih
  rcases n with _|n
  ·(repeat' (first|(refine CmpP.go (fun hc => ?_) (fun hc => ?_)<;>first|(exfalso;omega)|(conv=>whnf))|(refine AKM.x ?_;conv=>whnf)))
   rw[List.drop_zero,List.drop_zero]at p2
   exact FinP.i (cmpS_eq (by rw[←v1,←v2,p2]))
  ·have e1:((n+1:Nat):Int)-1=n:=by omega
   rw[e1]
   obtain ⟨x,hx⟩ : ∃ x,X[n]? = some x:=⟨_,List.getElem?_eq_getElem (by omega)⟩
   obtain ⟨y,hy⟩ : ∃ y,Y[n]? = some y:=⟨_,List.getElem?_eq_getElem (by omega)⟩
   rcases Nat.lt_trichotomy x y with h|h|h
   ·have:=val_lt_of_drop d1 d2 hlen hx hy p2 h
    (repeat' (first|(refine CmpP.go (fun hc => ?_) (fun hc => ?_)<;>first|(exfalso;omega)|(conv=>whnf))|(refine RdP.at (by assumption) ?_ rfl ?_;omega;conv=>whnf)|(refine AKM.x ?_;conv=>whnf)))
    exact FinP.i (cmpS_lt (by omega))
   ·subst h
    (repeat' (first|(refine CmpP.go (fun hc => ?_) (fun hc => ?_)<;>first|(exfalso;omega)|(conv=>whnf))|(refine OpP.sub ?_ ?_;omega;conv=>whnf)|(refine RdP.at (by assumption) ?_ rfl ?_;omega;conv=>whnf)|(refine AKM.x ?_;conv=>whnf)))
    refine AKM.back [] (by (conv=>whnf);exact ⟨rfl,rfl,rfl⟩) (ih n (by omega) ⟨by omega,?_⟩)
    obtain ⟨i1,e1⟩:=List.getElem?_eq_some_iff.1 hx
    obtain ⟨i2,e2⟩:=List.getElem?_eq_some_iff.1 hy
    rw[List.drop_eq_getElem_cons i1,List.drop_eq_getElem_cons i2,p2,e1,e2]
   ·have:=val_lt_of_drop d2 d1 hlen.symm hy hx p2.symm h
    (repeat' (first|(refine CmpP.go (fun hc => ?_) (fun hc => ?_)<;>first|(exfalso;omega)|(conv=>whnf))|(refine RdP.at (by assumption) ?_ rfl ?_;omega;conv=>whnf)|(refine AKM.x ?_;conv=>whnf)))
    exact FinP.i (cmpS_gt (by omega))
 ·rcases Nat.lt_trichotomy (dg (val a)).length (dg (val b)).length with h1|h1|h1
  ·have:=val_lt_of_len h1
   (repeat' (first|(refine CmpP.go (fun hc => ?_) (fun hc => ?_)<;>first|(exfalso;omega)|(conv=>whnf))|(refine LenP.go ?_;conv=>whnf)|(refine AKM.x ?_;conv=>whnf)|(refine CallP.go (t1 _) ?_;conv=>whnf)|(refine CallP.go (t2 _) ?_;conv=>whnf)))
   exact FinP.i (cmpS_lt (by omega))
  ·exact absurd h1 hlen
  ·have:=val_lt_of_len h1
   (repeat' (first|(refine CmpP.go (fun hc => ?_) (fun hc => ?_)<;>first|(exfalso;omega)|(conv=>whnf))|(refine LenP.go ?_;conv=>whnf)|(refine AKM.x ?_;conv=>whnf)|(refine CallP.go (t1 _) ?_;conv=>whnf)|(refine CallP.go (t2 _) ?_;conv=>whnf)))
   exact FinP.i (cmpS_gt (by omega))
theorem val_take_get {y:List Nat} (i:Nat):val (y.take (i+1))=val (y.take i)+4294967296^i*y.getD i 0:=by
 rcases Nat.lt_or_ge i y.length with h|h
 ·rw[val_take_succ (List.getElem?_eq_getElem h),getD_is (List.getElem?_eq_getElem h)]
 ·rw[←getD_none h,val_take_all h,val_take_all (by omega)];omega
theorem ev_r1_Add (N:RefGLib L) (a b:List Nat) (q1 q2:Bool) (hA:Dig a) (hB:Dig b) (la:a.length≤549755813888) (lb:b.length≤549755813888):Ev L 103 [.sl q1 (a.map e32),.sl q2 (b.map e32)] (.sl false ((dg (val a+val b)).map e32)):=by
 refine Ev.x N.ref01_Add rfl rfl ?_
 (repeat' (refine AKM.x ?_;conv=>whnf))
 refine AKM.loop3 (fun i _ _=>a.length+b.length-i) (fun (i:Nat) (o:List Nat) (c:Nat)=>(i≤a.length∨i≤b.length)∧o.length=i∧Dig o∧c≤1∧val o+4294967296^i*c=val (a.take i)+val (b.take i)) (fun i o c=>[(7,.int .i64 i),(6,.int .u64 (c:Int)),(5,.row 5 0 1 0 o.length)]) (fun i o c=>[(5,5,.rw 1 (o.map e32))]) [] [] 0 [] 0 (by (conv=>whnf);exact ⟨rfl,rfl,rfl⟩) ⟨by omega,rfl,dig_nil,by omega,by simp [val]⟩ ?_
 intro i o c ⟨p1,p2,p3,p4,p5⟩ ih
 by_cases hi:i<a.length∨i<b.length
 ·have g1:=val_take_get (y:=a) i
  have g2:=val_take_get (y:=b) i
  have k1:=getD_lt hA i
  have k2:=getD_lt hB i
  have hst : ∀ t,t=c+a.getD i 0+b.getD i 0→val (o++[t%4294967296])+4294967296^(i+1)*(t/4294967296)=val (a.take (i+1))+val (b.take (i+1)):=fun t ht=>by
   have h3:=carry_step (val o) (4294967296^i) t
   rw[val_snoc,p2,g1,g2,Nat.pow_succ]
   rw[h3,ht,Nat.mul_add,Nat.mul_add]
   omega
  by_cases h1:i<a.length
  ·obtain ⟨x,hx⟩ : ∃ x,a[i]? = some x:=⟨_,List.getElem?_eq_getElem h1⟩
   have hxb:=hA.at hx
   rw[getD_is hx]at hst
   by_cases h2:i<b.length
   ·obtain ⟨y,hy⟩ : ∃ y,b[i]? = some y:=⟨_,List.getElem?_eq_getElem h2⟩
    have hyb:=hB.at hy
    rw[getD_is hy]at hst
    (repeat' (first|(refine CmpP.go (fun hc => ?_) (fun hc => ?_)<;>first|(exfalso;omega)|(conv=>whnf))|(refine OpP.nadd ?_ ?_;omega;conv=>whnf)|(refine ConvP.u64 ?_ ?_;omega;conv=>whnf)|(refine ConvP.n32 ?_;conv=>whnf)|(refine LenP.go ?_;conv=>whnf)|(refine RdP.at (by assumption) ?_ rfl ?_;omega;conv=>whnf)|(refine RowP.e1 ?_;conv=>whnf)|(refine AKM.x ?_;conv=>whnf)))
    refine AppR.one (enc:=e32) (((c+x+y)%4294967296:Nat)) rfl rfl rfl (by omega) (by omega) ?_
    (conv=>whnf)
    (repeat' (first|(refine OpP.add ?_ ?_;omega;conv=>whnf)|(refine OpP.nshr32 ?_;conv=>whnf)))
    refine AKM.back [(5,46)] (by (conv=>whnf);exact ⟨rfl,rfl,rfl⟩) (ih (i+1) (o++[(c+x+y)%4294967296]) ((c+x+y)/4294967296) (by omega) ⟨by omega,by simp;omega,p3.append (dig_one (by omega)),by omega,?_⟩)
    exact hst (c+x+y) (by omega)
   ·rw[←getD_none (show b.length≤i by omega)]at hst
    (repeat' (first|(refine CmpP.go (fun hc => ?_) (fun hc => ?_)<;>first|(exfalso;omega)|(conv=>whnf))|(refine OpP.nadd ?_ ?_;omega;conv=>whnf)|(refine ConvP.u64 ?_ ?_;omega;conv=>whnf)|(refine ConvP.n32 ?_;conv=>whnf)|(refine LenP.go ?_;conv=>whnf)|(refine RdP.at (by assumption) ?_ rfl ?_;omega;conv=>whnf)|(refine RowP.e1 ?_;conv=>whnf)|(refine AKM.x ?_;conv=>whnf)))
    refine AppR.one (enc:=e32) (((c+x)%4294967296:Nat)) rfl rfl rfl (by omega) (by omega) ?_
    (conv=>whnf)
    (repeat' (first|(refine OpP.add ?_ ?_;omega;conv=>whnf)|(refine OpP.nshr32 ?_;conv=>whnf)))
    refine AKM.back [(5,46)] (by (conv=>whnf);exact ⟨rfl,rfl,rfl⟩) (ih (i+1) (o++[(c+x)%4294967296]) ((c+x)/4294967296) (by omega) ⟨by omega,by simp;omega,p3.append (dig_one (by omega)),by omega,?_⟩)
    exact hst (c+x) (by omega)
  ·obtain ⟨y,hy⟩ : ∃ y,b[i]? = some y:=⟨_,List.getElem?_eq_getElem (by omega)⟩
   have hyb:=hB.at hy
   rw[getD_is hy,←getD_none (show a.length≤i by omega)]at hst
   (repeat' (first|(refine CmpP.go (fun hc => ?_) (fun hc => ?_)<;>first|(exfalso;omega)|(conv=>whnf))|(refine OpP.nadd ?_ ?_;omega;conv=>whnf)|(refine ConvP.u64 ?_ ?_;omega;conv=>whnf)|(refine ConvP.n32 ?_;conv=>whnf)|(refine LenP.go ?_;conv=>whnf)|(refine RdP.at (by assumption) ?_ rfl ?_;omega;conv=>whnf)|(refine RowP.e1 ?_;conv=>whnf)|(refine AKM.x ?_;conv=>whnf)))
   refine AppR.one (enc:=e32) (((c+y)%4294967296:Nat)) rfl rfl rfl (by omega) (by omega) ?_
   (conv=>whnf)
   (repeat' (first|(refine OpP.add ?_ ?_;omega;conv=>whnf)|(refine OpP.nshr32 ?_;conv=>whnf)))
   refine AKM.back [(5,46)] (by (conv=>whnf);exact ⟨rfl,rfl,rfl⟩) (ih (i+1) (o++[(c+y)%4294967296]) ((c+y)/4294967296) (by omega) ⟨by omega,by simp;omega,p3.append (dig_one (by omega)),by omega,?_⟩)
   exact hst (c+y) (by omega)
 ·clear ih
  have hv:val (o++[c])=val a+val b:=by
   rw[val_take_all (by omega),val_take_all (by omega)]at p5
   rw[val_snoc,p2,p5]
  have hT:=fun q=>ev_r1_Trim N (o++[c]) q (p3.append (dig_one (by omega))) (by simp;omega)
  rw[hv]at hT
  (repeat' (first|(refine CmpP.go (fun hc => ?_) (fun hc => ?_)<;>first|(exfalso;omega)|(conv=>whnf))|(refine ConvP.n32i ?_ ?_;omega;conv=>whnf)|(refine LenP.go ?_;conv=>whnf)|(refine RowP.e1 ?_;conv=>whnf)|(refine AKM.x ?_;conv=>whnf)))
  refine AppR.one (enc:=e32) c rfl rfl rfl (by omega) (by omega) ?_
  (conv=>whnf)
  (repeat' (first|(refine SnR.all (fun _=>rfl) rfl ?_ ?_;(first|rfl|simp);conv=>whnf)|(refine CallP.go (hT _) ?_;conv=>whnf)))
  exact FinP.go rfl (cl_sl _)
theorem cmpS_ge {a b:Nat} (h:b≤a):0≤cmpS a b:=by unfold cmpS;split<;>(try split)<;>omega
theorem rsub_step {V Y X p d e bw have' take w bw':Nat} (h:V+Y=X+p*bw) (h1:take=bw+e) (h2:(have'=d∧bw'=0∧take≤d)∨(have'=d+4294967296∧bw'=1∧d<take)) (h3:w+take=have'):V+p*w+(Y+p*e)=X+p*d+p*4294967296*bw':=by
 have h4:w+bw+e=d+4294967296*bw':=by omega
 have h5:p*(w+bw+e)=p*(d+4294967296*bw'):=by rw[h4]
 rw[Nat.mul_add,Nat.mul_add,Nat.mul_add,←Nat.mul_assoc]at h5
 omega
theorem r1_sub_main (N:RefGLib L) (x y:List Nat) (hX:Dig x) (hY:Dig y) (lx:x.length≤549755813888) (ly:y.length≤549755813888) (hle:val y≤val x) :
  AKM L [It.lp ref01_Sub.l1,It.blk 0,It.code (((ACode.ops ref01_Sub.r18 false).dr [1,5,6,7,21,53,54] []).seq ACode.ret)]
  [(7,AV.int IntKind.i64 0),(6,AV.int IntKind.u64 0),(5,AV.row 101021 0 1 0 x.length),(1,AV.sl false (List.map e32 y))]
  [(101021,101021,Cel.rw 1 (List.map e32 x))]
  (RetX ref01_Sub (AV.sl false (List.map e32 (dg (val x-val y))))):=by
 refine AKM.loop3 (fun i _ _=>x.length-i) (fun (i:Nat) (o:List Nat) (bw:Nat)=>i≤x.length∧o.length=x.length∧Dig o∧bw≤1∧o.drop i=x.drop i∧val (o.take i)+val (y.take i)=val (x.take i)+4294967296^i*bw) (fun i o bw=>[(7,.int .i64 i),(6,.int .u64 (bw:Int))]) (fun i o bw=>[(101021,101021,.rw 1 (o.map e32))]) [] [] 0 x 0 (by (conv=>whnf);exact ⟨rfl,rfl,rfl⟩) ⟨by omega,rfl,hX,by omega,rfl,by simp [val]⟩ ?_
 intro i o bw ⟨p1,p2,p3,p4,p5,p6⟩ ih
 by_cases hi:i<x.length
 ·obtain ⟨d,hd⟩ : ∃ d,o[i]? = some d:=⟨_,List.getElem?_eq_getElem (by omega)⟩
  have hdb:=p3.at hd
  have hxi:x[i]? = some d:=by
   have e1:(o.drop i)[0]? = (x.drop i)[0]? := by rw[p5]
   simpa [hd] using e1.symm
  have g1:=val_take_succ hxi
  have g2:=val_take_get (y:=y) i
  have ge:=getD_lt hY i
  have hst : ∀ have' take w bw',take=bw+y.getD i 0→((have'=d∧bw'=0∧take≤d)∨(have'=d+4294967296∧bw'=1∧d<take))→w+take=have'→val ((o.set i w).take (i+1))+val (y.take (i+1))=val (x.take (i+1))+4294967296^(i+1)*bw':=fun have' take w bw' a1 a2 a3=>by
   rw[val_set_take (by omega),g1,g2,Nat.pow_succ]
   exact rsub_step p6 a1 a2 a3
  have hdr : ∀ w,(o.set i w).drop (i+1)=x.drop (i+1):=fun w=>by
   rw[List.drop_set_of_lt (by omega)]
   have e1:(o.drop i).drop 1=(x.drop i).drop 1:=by rw[p5]
   simpa using e1
  by_cases hy:i<y.length
  ·obtain ⟨e,he⟩ : ∃ e,y[i]? = some e:=⟨_,List.getElem?_eq_getElem hy⟩
   have heb:=hY.at he
   rw[getD_is he]at hst
   by_cases hlt:d<bw+e
   ·have h3:=hst (d+4294967296) (bw+e) (d+4294967296-(bw+e)) 1 (by omega) (Or.inr ⟨rfl,rfl,hlt⟩) (by omega)
    (repeat' (first|(refine CmpP.go (fun hc => ?_) (fun hc => ?_)<;>first|(exfalso;omega)|(conv=>whnf))|(refine Req.go ?_ ?_;omega;conv=>whnf)|(refine OpP.nadd ?_ ?_;omega;conv=>whnf)|(refine OpP.nsub ?_ ?_ ?_;omega;omega;conv=>whnf)|(refine OpP.naddB ?_ ?_;omega;conv=>whnf)|(refine ConvP.u64 ?_ ?_;omega;conv=>whnf)|(refine ConvP.n32i ?_ ?_;omega;conv=>whnf)|(refine LenP.go ?_;conv=>whnf)|(refine RdP.at (by assumption) ?_ rfl ?_;omega;conv=>whnf)|(refine LdR.dat (by assumption) ?_;conv=>whnf)|(refine AKM.x ?_;conv=>whnf)))
    refine StR.dig (by omega) ?_
    (conv=>whnf)
    (repeat' (refine OpP.add ?_ ?_;omega;conv=>whnf))
    exact AKM.back [] (by (conv=>whnf);exact ⟨rfl,rfl,rfl⟩) (ih (i+1) (o.set i (d+4294967296-(bw+e))) 1 (by omega) ⟨by omega,by simpa using p2,p3.set _ (by omega),by omega,hdr _,h3⟩)
   ·have h3:=hst d (bw+e) (d-(bw+e)) 0 (by omega) (Or.inl ⟨rfl,rfl,by omega⟩) (by omega)
    (repeat' (first|(refine CmpP.go (fun hc => ?_) (fun hc => ?_)<;>first|(exfalso;omega)|(conv=>whnf))|(refine Req.go ?_ ?_;omega;conv=>whnf)|(refine OpP.nadd ?_ ?_;omega;conv=>whnf)|(refine OpP.nsub ?_ ?_ ?_;omega;omega;conv=>whnf)|(refine ConvP.u64 ?_ ?_;omega;conv=>whnf)|(refine ConvP.n32i ?_ ?_;omega;conv=>whnf)|(refine LenP.go ?_;conv=>whnf)|(refine RdP.at (by assumption) ?_ rfl ?_;omega;conv=>whnf)|(refine LdR.dat (by assumption) ?_;conv=>whnf)|(refine AKM.x ?_;conv=>whnf)))
    refine StR.dig (by omega) ?_
    (conv=>whnf)
    (repeat' (refine OpP.add ?_ ?_;omega;conv=>whnf))
    exact AKM.back [] (by (conv=>whnf);exact ⟨rfl,rfl,rfl⟩) (ih (i+1) (o.set i (d-(bw+e))) 0 (by omega) ⟨by omega,by simpa using p2,p3.set _ (by omega),by omega,hdr _,h3⟩)
  ·rw[←getD_none (show y.length≤i by omega)]at hst
   by_cases hlt:d<bw
   ·have h3:=hst (d+4294967296) (bw) (d+4294967296-(bw)) 1 (by omega) (Or.inr ⟨rfl,rfl,hlt⟩) (by omega)
    (repeat' (first|(refine CmpP.go (fun hc => ?_) (fun hc => ?_)<;>first|(exfalso;omega)|(conv=>whnf))|(refine Req.go ?_ ?_;omega;conv=>whnf)|(refine OpP.nsub ?_ ?_ ?_;omega;omega;conv=>whnf)|(refine OpP.naddB ?_ ?_;omega;conv=>whnf)|(refine ConvP.u64 ?_ ?_;omega;conv=>whnf)|(refine ConvP.n32i ?_ ?_;omega;conv=>whnf)|(refine LenP.go ?_;conv=>whnf)|(refine LdR.dat (by assumption) ?_;conv=>whnf)|(refine AKM.x ?_;conv=>whnf)))
    refine StR.dig (by omega) ?_
    (conv=>whnf)
    (repeat' (refine OpP.add ?_ ?_;omega;conv=>whnf))
    exact AKM.back [] (by (conv=>whnf);exact ⟨rfl,rfl,rfl⟩) (ih (i+1) (o.set i (d+4294967296-(bw))) 1 (by omega) ⟨by omega,by simpa using p2,p3.set _ (by omega),by omega,hdr _,h3⟩)
   ·have h3:=hst d (bw) (d-(bw)) 0 (by omega) (Or.inl ⟨rfl,rfl,by omega⟩) (by omega)
    (repeat' (first|(refine CmpP.go (fun hc => ?_) (fun hc => ?_)<;>first|(exfalso;omega)|(conv=>whnf))|(refine Req.go ?_ ?_;omega;conv=>whnf)|(refine OpP.nsub ?_ ?_ ?_;omega;omega;conv=>whnf)|(refine ConvP.u64 ?_ ?_;omega;conv=>whnf)|(refine ConvP.n32i ?_ ?_;omega;conv=>whnf)|(refine LenP.go ?_;conv=>whnf)|(refine LdR.dat (by assumption) ?_;conv=>whnf)|(refine AKM.x ?_;conv=>whnf)))
    refine StR.dig (by omega) ?_
    (conv=>whnf)
    (repeat' (refine OpP.add ?_ ?_;omega;conv=>whnf))
    exact AKM.back [] (by (conv=>whnf);exact ⟨rfl,rfl,rfl⟩) (ih (i+1) (o.set i (d-(bw))) 0 (by omega) ⟨by omega,by simpa using p2,p3.set _ (by omega),by omega,hdr _,h3⟩)
 ·obtain rfl:i=x.length:=by omega
  clear ih
  rw[val_take_all (by omega),val_take_all (Nat.le_refl _)]at p6
  have h1:=val_lt p3
  rw[p2]at h1
  have h2:val (y.take x.length)≤val y:=by have:=val_splitD y x.length;omega
  have hb0:bw=0:=by
   rcases Nat.eq_zero_or_pos bw with h|h
   ·exact h
   ·have:bw=1:=by omega
    subst this
    omega
  subst hb0
  have hve:val (y.take x.length)=val y:=by
   have h3:=val_splitD y x.length
   rcases Nat.eq_zero_or_pos (val (y.drop x.length)) with h|h
   ·rw[h]at h3;omega
   ·have h4:4294967296^x.length*1≤4294967296^x.length*val (y.drop x.length):=Nat.mul_le_mul_left _ h
    have h5:=val_lt hX
    omega
  have hv:val o=val x-val y:=by omega
  have hT:=fun q=>ev_r1_Trim N o q p3 (by omega)
  rw[←hv,←p2]
  (repeat' (first|(refine CmpP.go (fun hc => ?_) (fun hc => ?_)<;>first|(exfalso;omega)|(conv=>whnf))|(refine SnR.all (fun _=>rfl) rfl ?_ ?_;(first|rfl|simp);conv=>whnf)|(refine AKM.x ?_;conv=>whnf)|(refine CallP.go (hT _) ?_;conv=>whnf)))
  exact FinP.go rfl (cl_sl _)
theorem ev_r1_Sub (N:RefGLib L) (a b:List Nat) (q1 q2:Bool) (hA:Dig a) (hB:Dig b) (la:a.length≤549755813888) (lb:b.length≤549755813888):Ev L 104 [.sl q1 (a.map e32),.sl q2 (b.map e32)] (.sl false ((dg (val a-val b)).map e32)):=by
 have hcmp:=fun q q'=>ev_r1_Compare N a b q q' hA hB (by omega) (by omega)
 have t2:=fun q=>ev_r1_Trim N b q hB (by omega)
 refine Ev.x N.ref01_Sub rfl rfl ?_
 by_cases hlt:val a<val b
 ·rw[←cmpS_lt (by omega)]at hcmp
  rw[show val a-val b=0 by omega,dg_zero]
  (repeat' (first|(refine CmpP.go (fun hc => ?_) (fun hc => ?_)<;>first|(exfalso;omega)|(conv=>whnf))|(refine AKM.x ?_;conv=>whnf)|(refine CallP.go (hcmp _ _) ?_;conv=>whnf)))
  exact FinP.go rfl (cl_sl [])
 ·have hge:=cmpS_ge (show val b≤val a by omega)
  generalize cmpS (val a) (val b)=cm at *
  have d2:=dig_dg (val b)
  have v2:=val_dg (val b)
  have l2:=dg_len_val hB
  rw[←v2]
  rw[←v2]at hlt
  generalize dg (val b)=y at *
  have hdg : ∀ n,a.take n=dg (val a)→val (a.take n)=val a:=fun n h=>by rw[h,val_dg]
  (repeat' (first|(refine CmpP.go (fun hc => ?_) (fun hc => ?_)<;>first|(exfalso;omega)|(conv=>whnf))|(refine AKM.x ?_;conv=>whnf)|(refine CallP.go (hcmp _ _) ?_;conv=>whnf)|(refine CallP.go (t2 _) ?_;conv=>whnf)))
  refine CalP.walk 1000 N.ref01_Trim rfl rfl ?_
  (repeat' (first|(refine LenP.go ?_;conv=>whnf)|(refine AKM.x ?_;conv=>whnf)))
  refine AKM.loop1 (fun n=>n) (fun (n:Nat)=>n≤a.length ∧ ∀ i,n≤i→i<a.length→a[i]? = some 0) (fun n=>[(3,.int .i64 n)]) (fun _=>[]) [] [] a.length (by (conv=>whnf);exact ⟨rfl,rfl,rfl⟩) ⟨Nat.le_refl _,fun i h1 h2=>by omega⟩ ?_
  intro n ⟨p1,p2⟩ ih
  rcases n with _|n
  ·have hv:=hdg _ (cut_found hA p1 p2 (Or.inl rfl))
   clear ih
   (repeat' (first|(refine CmpP.go (fun hc => ?_) (fun hc => ?_)<;>first|(exfalso;omega)|(conv=>whnf))|(refine AKM.x ?_;conv=>whnf)))
   refine SlS.to (k:=0) (fun _=>rfl) (by omega) ?_
   (conv=>whnf)
   refine AppN.many (enc:=e32) (fun _=>rfl) (by rw[List.length_take];omega) (by rw[List.length_take];omega) ?_
   (conv=>whnf)
   refine ⟨rfl,_,rfl,?_⟩
   (conv=>whnf)
   skip
   rw[←hv]
   exact AKM.back [] (by (conv=>whnf);exact ⟨rfl,rfl,rfl⟩) (r1_sub_main N (a.take 0) y (hA.take _) d2 (by simp) (by omega) (by omega))
  ·have e1:((n+1:Nat):Int)-1=n:=by omega
   (repeat' (first|(refine CmpP.go (fun hc => ?_) (fun hc => ?_)<;>first|(exfalso;omega)|(conv=>whnf))|(refine OpP.sub ?_ ?_;omega;conv=>whnf)|(refine RdP.digi (by assumption) ?_ (fun e he hb => ?_);omega;conv=>whnf)|(refine AKM.x ?_;conv=>whnf)))
   ·rw[e1]
    exact AKM.back [] (by (conv=>whnf);exact ⟨rfl,rfl,rfl⟩) (ih n (by omega) ⟨by omega,fun i h1 h2=>by
     by_cases h:i=n
     ·subst h
      rw[e1,Int.toNat_natCast]at he
      rw[he];congr 1;omega
     ·exact p2 i (by omega) h2⟩)
   ·rw[e1,Int.toNat_natCast]at he
    have hv:=hdg _ (cut_found hA p1 p2 (Or.inr ⟨_,he,by omega⟩))
    clear ih
    refine SlS.to (k:=n+1) (fun _=>rfl) (by omega) ?_
    (conv=>whnf)
    refine AppN.many (enc:=e32) (fun _=>rfl) (by rw[List.length_take];omega) (by rw[List.length_take];omega) ?_
    (conv=>whnf)
    refine ⟨rfl,_,rfl,?_⟩
    (conv=>whnf)
    skip
    rw[←hv]
    exact AKM.back [] (by (conv=>whnf);exact ⟨rfl,rfl,rfl⟩) (r1_sub_main N (a.take (n+1)) y (hA.take _) d2 (by rw[List.length_take];omega) (by omega) (by omega))
end Go.Eng

namespace Go.Eng
open F
attribute [local irreducible] AKM CmpP Req OpP UnP ConvP RdP LdR StR MkR LenP AppR AppN CpyR RowP SnR Bds SlS CallP CalP FinP pw LdM GetM SetM PutM MkM AppM SnM FlP CallR
set_option maxHeartbeats 4000000
variable {L:Lib}
theorem dg_digit {d:Nat} (h0:d≠0) (hd:d<4294967296):dg d=[d]:=by
 rw[dg_pos h0,Nat.div_eq_of_lt hd,dg_zero,Nat.mod_eq_of_lt hd]
theorem ev_r1_BitLen (N:RefGLib L) (d:Nat) (q:Bool) (h0:d≠0) (hd:d<4294967296):Ev L 106 [.sl q ([d].map e32)] (.int .i64 (blen d:Int)):=by
 have hT:=fun q=>ev_r1_Trim N [d] q (dig_one hd) (by simp)
 rw[show val [d]=d by simp [val],dg_digit h0 hd]at hT
 have hll:[d].length=1:=rfl
 have hd0:[d][(([d].length:Int)-1).toNat]? = some d:=rfl
 have hb:=blen_le (k:=32) hd
 refine Ev.x N.ref01_BitLen rfl rfl ?_
 (repeat' (first|(refine CmpP.go (fun hc => ?_) (fun hc => ?_)<;>first|(exfalso;omega)|(conv=>whnf))|(refine OpP.sub ?_ ?_;omega;conv=>whnf)|(refine OpP.mul ?_ ?_;omega;conv=>whnf)|(refine LenP.go ?_;conv=>whnf)|(refine RdP.at (by assumption) ?_ rfl ?_;omega;conv=>whnf)|(refine AKM.x ?_;conv=>whnf)|(refine CallP.go (hT _) ?_;conv=>whnf)))
 refine AKM.loop2 (fun _ x=>x) (fun (n x:Nat)=>n+blen x=blen d∧x≤d) (fun n x=>[(3,.int .i64 n),(4,.int .u32 (x:Int))]) (fun _ _=>[]) [] [] 0 d (by (conv=>whnf);exact ⟨rfl,rfl,rfl⟩) ⟨by omega,Nat.le_refl _⟩ ?_
 intro n x ⟨p1,p2⟩ ih
 by_cases hx:x=0
 ·subst hx
  have:blen 0=0:=by unfold blen;simp
  (repeat' (first|(refine CmpP.go (fun hc => ?_) (fun hc => ?_)<;>first|(exfalso;omega)|(conv=>whnf))|(refine AKM.x ?_;conv=>whnf)))
  exact FinP.i (by omega)
 ·have h1:blen (x/2)+1=blen x:=by
   by_cases h1:x=1
   ·subst h1;decide
   ·exact blen_div 1 (x:=x) (by omega)
  (repeat' (first|(refine CmpP.go (fun hc => ?_) (fun hc => ?_)<;>first|(exfalso;omega)|(conv=>whnf))|(refine OpP.add ?_ ?_;omega;conv=>whnf)|(refine OpP.nshr1 ?_;conv=>whnf)|(refine AKM.x ?_;conv=>whnf)))
  exact AKM.back [] (by (conv=>whnf);exact ⟨rfl,rfl,rfl⟩) (ih (n+1) (x/2) (by omega) ⟨by omega,by omega⟩)
theorem up_step {V P X lo s d p t:Nat} (h:V+P*p*lo=P*(X*2^s)) (ht:t=lo+d*2^s):V+P*p*(t%4294967296)+P*p*4294967296*(t/4294967296)=P*((X+p*d)*2^s):=by
 have h1:=carry_step V (P*p) t
 rw[h1,ht]
 have:P*((X+p*d)*2^s)=P*(X*2^s)+P*p*(d*2^s):=by grind
 rw[this,←h,Nat.mul_add]
 omega
theorem ev_r1_Shl (N:RefGLib L) (l:List Nat) (q:Bool) (n:Nat) (hD:Dig l) (hl:l.length≤549755813888) (hn:n≤65536):Ev L 107 [.sl q (l.map e32),.int .i64 (n:Int)] (.sl false ((dg (val l*2^n)).map e32)):=by
 have hT:=fun q=>ev_r1_Trim N l q hD (by omega)
 have d1:=dig_dg (val l)
 have v1:=val_dg (val l)
 have l1:=dg_len_val hD
 have hz:=dg_len0 (val l)
 refine Ev.x N.ref01_Shift rfl rfl ?_
 by_cases h0:val l=0
 ·rw[h0,Nat.zero_mul,dg_zero]
  (repeat' (first|(refine CmpP.go (fun hc => ?_) (fun hc => ?_)<;>first|(exfalso;omega)|(conv=>whnf))|(refine LenP.go ?_;conv=>whnf)|(refine AKM.x ?_;conv=>whnf)|(refine CallP.go (hT _) ?_;conv=>whnf)))
  exact FinP.go rfl (cl_sl [])
 rw[←v1]
 generalize dg (val l)=x at *
 have hs31:n%32<32:=Nat.mod_lt _ (by omega)
 have e1:(n:Int)/32=((n/32:Nat):Int):=by omega
 have e2:(n:Int)%32=((n%32:Nat):Int):=by omega
 (repeat' (first|(refine CmpP.go (fun hc => ?_) (fun hc => ?_)<;>first|(exfalso;omega)|(conv=>whnf))|(refine OpP.quo ?_ ?_ (fun _ => ?_) (fun _ _ => ?_);omega;omega;all_goals first|(exfalso;omega)|(conv=>whnf))|(refine LenP.go ?_;conv=>whnf)|(refine AKM.x ?_;conv=>whnf)|(refine CallP.go (hT _) ?_;conv=>whnf)))
 rw[e1]
 refine MkR.go (enc:=e32) 0 (n/32) rfl rfl (by omega) ?_
 (conv=>whnf)
 skip
 refine AKM.loop3 (fun i _ _=>x.length-i) (fun (i:Nat) (o:List Nat) (c:Nat)=>i≤x.length∧o.length=n/32+i∧Dig o∧c<2^(n%32)∧val o+4294967296^(n/32)*4294967296^i*c=4294967296^(n/32)*(val (x.take i)*2^(n%32))) (fun i o c=>[(10,.int .i64 i),(9,.int .u64 (c:Int)),(8,.row 107069 0 1 0 (n/32+i))]) (fun i o c=>[(107069,107069,.rw 1 (o.map e32))]) [] [] 0 (List.replicate (n/32) 0) 0 (by (conv=>whnf);exact ⟨rfl,rfl,rfl⟩) ⟨by omega,by simp,dig_zeros _,Nat.two_pow_pos _,by simp [val,val_zeros]⟩ ?_
 intro i o c ⟨p1,p2,p3,p4,p5⟩ ih
 have hps:=pow_s_le (s:=n%32) (by omega)
 by_cases hi:i<x.length
 ·obtain ⟨d,hd⟩ : ∃ d,x[i]? = some d:=⟨_,List.getElem?_eq_getElem hi⟩
  have hdb:=d1.at hd
  obtain ⟨f1,f2,f3,f4⟩:=sh_facts (s:=n%32) hdb (by omega)
  have hr:=mul_room (show n%32≤64 by omega) f4
  (repeat' (first|(refine CmpP.go (fun hc => ?_) (fun hc => ?_)<;>first|(exfalso;omega)|(conv=>whnf))|(refine OpP.rem ?_ (fun _ _ _ => ?_) (fun _ _ _ _ => ?_);omega;all_goals first|(exfalso;omega)|(conv=>whnf))|(refine ConvP.u64 ?_ ?_;omega;conv=>whnf)|(refine LenP.go ?_;conv=>whnf)|(refine RdP.at (by assumption) ?_ rfl ?_;omega;conv=>whnf)|(refine AKM.x ?_;conv=>whnf)))
  rw[e2]
  refine OpP.sh8 (by omega) f4 ?_
  (conv=>whnf)
  skip
  refine OpP.nor8r (n%32) (Nat.mul_mod_left _ _) p4 (by omega) ?_
  (conv=>whnf)
  have hst:=up_step (d:=d) p5 rfl
  have hc2:(c+d*2^(n%32))/4294967296<2^(n%32):=by
   rw[Nat.div_lt_iff_lt_mul (by omega)]
   have:=Nat.mul_le_mul_right (2^(n%32)) (show d≤4294967295 by omega)
   omega
  generalize c+d*2^(n%32)=t at *
  (repeat' (first|(refine ConvP.n32 ?_;conv=>whnf)|(refine RowP.e1 ?_;conv=>whnf)))
  refine AppR.one (enc:=e32) (t%4294967296) rfl p2.symm rfl (by omega) (by omega) ?_
  (conv=>whnf)
  (repeat' (first|(refine OpP.add ?_ ?_;omega;conv=>whnf)|(refine OpP.nshr32 ?_;conv=>whnf)))
  rw[show (o++[t%4294967296]).length=n/32+(i+1) by simp [p2];omega]
  refine AKM.back [(107069,107091)] (by (conv=>whnf);exact ⟨rfl,rfl,rfl⟩) (ih (i+1) (o++[t%4294967296]) (t/4294967296) (by omega) ⟨by omega,by simp;omega,p3.append (dig_one (by omega)),hc2,?_⟩)
  rw[val_snoc,p2,val_take_succ hd,Nat.pow_add,Nat.pow_succ,←Nat.mul_assoc]
  exact hst
 ·obtain rfl:i=x.length:=by omega
  clear ih
  have hcb:c<4294967296:=by omega
  have hOD:Dig (o++[c]):=p3.append (dig_one hcb)
  have hOv:val (o++[c])=val x*2^n:=by
   rw[val_snoc,p2,Nat.pow_add,p5,val_take_all (Nat.le_refl _)]
   have e3:2^n=4294967296^(n/32)*2^(n%32):=by
    rw[show 4294967296=2^32 from rfl,←Nat.pow_mul,←Nat.pow_add]
    congr 1;omega
   rw[e3];grind
  have hOl:(o++[c]).length=n/32+x.length+1:=by simp [p2]
  (repeat' (first|(refine CmpP.go (fun hc => ?_) (fun hc => ?_)<;>first|(exfalso;omega)|(conv=>whnf))|(refine ConvP.n32i ?_ ?_;omega;conv=>whnf)|(refine LenP.go ?_;conv=>whnf)|(refine RowP.e1 ?_;conv=>whnf)|(refine AKM.x ?_;conv=>whnf)))
  refine AppR.one (enc:=e32) c rfl p2.symm rfl (by omega) (by omega) ?_
  (conv=>whnf)
  rw[←hOv,hOl]
  generalize o++[c]=O at *
  rw[←hOl]
  clear p3 p4 p5 hOv
  refine CalP.walk 1000 N.ref01_Trim rfl rfl ?_
  (repeat' (refine AKM.x ?_;conv=>whnf))
  refine AKM.loop1 (fun n=>n) (fun (n:Nat)=>n≤(O).length ∧ ∀ i,n≤i→i<(O).length→(O)[i]? = some 0) (fun n=>[(3,.int .i64 n)]) (fun _=>[]) [] [] (O).length (by (conv=>whnf);exact ⟨rfl,rfl,rfl⟩) ⟨Nat.le_refl _,fun i h1 h2=>by omega⟩ ?_
  intro n ⟨p1,p2⟩ ih
  rcases n with _|n
  ·(repeat' (first|(refine CmpP.go (fun hc => ?_) (fun hc => ?_)<;>first|(exfalso;omega)|(conv=>whnf))|(refine AKM.x ?_;conv=>whnf)))
   refine Bds.up 0 (by omega) (by omega) ?_
   (conv=>whnf)
   have hct:=cut_found (l:=O) (by assumption) p1 p2 (Or.inl rfl)
   have hcl:(List.take 0 O).length≤(O).length:=by rw[List.length_take];omega
   clear ih p2
   refine RowP.part (enc:=e32) (by omega) ?_
   (conv=>whnf)
   rw[List.drop_zero,Nat.sub_zero]
   generalize hT0:List.take 0 O=T0 at *
   refine AppN.many (enc:=e32) (fun _=>rfl) (by omega) (by omega) ?_
   (conv=>whnf)
   refine ⟨rfl,_,rfl,?_⟩
   (conv=>whnf)
   (refine SnR.all (enc:=e32) (fun _=>rfl) rfl rfl ?_;(conv=>whnf);exact FinP.go (by rw[←hct]) (cl_sl _))
  ·have e1:((n+1:Nat):Int)-1=n:=by omega
   (repeat' (first|(refine CmpP.go (fun hc => ?_) (fun hc => ?_)<;>first|(exfalso;omega)|(conv=>whnf))|(refine Req.go ?_ ?_;omega;conv=>whnf)|(refine OpP.sub ?_ ?_;omega;conv=>whnf)|(refine LdR.digi (by assumption) ?_ (fun v hv hb => ?_);omega;conv=>whnf)|(refine AKM.x ?_;conv=>whnf)))
   ·rw[e1]
    exact AKM.back [] (by (conv=>whnf);exact ⟨rfl,rfl,rfl⟩) (ih n (by omega) ⟨by omega,fun i h1 h2=>by
     by_cases h:i=n
     ·subst h
      rw[e1,Int.toNat_natCast]at hv
      rw[hv];congr 1;omega
     ·exact p2 i (by omega) h2⟩)
   ·refine Bds.up (n+1) (by omega) (by omega) ?_
    (conv=>whnf)
    rw[e1,Int.toNat_natCast]at hv
    have hct:=cut_found (l:=O) (by assumption) p1 p2 (Or.inr ⟨_,hv,by omega⟩)
    have hcl:(List.take (n+1) O).length≤(O).length:=by rw[List.length_take];omega
    clear ih p2 hv
    (rw[apX_rw (l:=O)];rotate_left;exact rfl;exact rfl);(conv=>whnf)
    refine RowP.part (enc:=e32) (by omega) ?_
    (conv=>whnf)
    rw[List.drop_zero,Nat.sub_zero]
    generalize hT0:List.take (n+1) O=T0 at *
    refine AppN.many (enc:=e32) (fun _=>rfl) (by omega) (by omega) ?_
    (conv=>whnf)
    refine ⟨rfl,_,rfl,?_⟩
    (conv=>whnf)
    (refine SnR.all (enc:=e32) (fun _=>rfl) rfl rfl ?_;(conv=>whnf);exact FinP.go (by rw[←hct]) (cl_sl _))
theorem val_drop_div {l:List Nat} (hD:Dig l) (k:Nat) (hk:k≤l.length):val (l.drop k)=val l/4294967296^k:=by
 have h1:=val_split l k hk
 have h2:=val_lt (hD.take k)
 rw[List.length_take,Nat.min_eq_left hk]at h2
 rw[h1,Nat.add_mul_div_left _ _ (Nat.pow_pos (by omega)),Nat.div_eq_of_lt h2,Nat.zero_add]
theorem pow_n32 (n:Nat):2^n=4294967296^(n/32)*2^(n%32):=by
 rw[show 4294967296=2^32 from rfl,←Nat.pow_mul,←Nat.pow_add]
 congr 1;omega
theorem down_dig {d e V r:Nat} (hd:d<4294967296) (hr:r<32):(d+e*4294967296)/2^r%4294967296+4294967296*((e+4294967296*V)/2^r)=(d+4294967296*(e+4294967296*V))/2^r:=by
 obtain ⟨f1,f2,f3⟩:=lower_facts (V:=e) hd (show r≤32 by omega)
 rw[lower_step (d:=d) (V:=e+4294967296*V) (by omega),lower_mod (d:=e) (V:=V) (by omega)]
 have h1:=lower_step (d:=d) (V:=e) (s:=r) (by omega)
 rw[show d+e*4294967296=d+4294967296*e by omega,h1]
 clear h1
 generalize d/2^r=A at *
 generalize e%2^r*2^(32-r)=Q at *
 generalize e/2^r=Z at *
 generalize 2^(32-r)=P at *
 omega
theorem ev_r1_Shr (N:RefGLib L) (l:List Nat) (q:Bool) (n:Nat) (hD:Dig l) (hl:l.length≤549755813888) (hn:1≤n∧n≤65536):Ev L 107 [.sl q (l.map e32),.int .i64 (-(n:Int))] (.sl false ((dg (val l/2^n)).map e32)):=by
 have hT:=fun q=>ev_r1_Trim N l q hD (by omega)
 have d1:=dig_dg (val l)
 have v1:=val_dg (val l)
 have l1:=dg_len_val hD
 have hz:=dg_len0 (val l)
 refine Ev.x N.ref01_Shift rfl rfl ?_
 by_cases h0:val l=0
 ·rw[h0,Nat.zero_div,dg_zero]
  (repeat' (first|(refine CmpP.go (fun hc => ?_) (fun hc => ?_)<;>first|(exfalso;omega)|(conv=>whnf))|(refine LenP.go ?_;conv=>whnf)|(refine AKM.x ?_;conv=>whnf)|(refine CallP.go (hT _) ?_;conv=>whnf)))
  exact FinP.go rfl (cl_sl [])
 rw[←v1]
 generalize dg (val l)=x at *
 have hr32:n%32<32:=Nat.mod_lt _ (by omega)
 have e1:(- -(n:Int))/32=((n/32:Nat):Int):=by omega
 have e2:(- -(n:Int))%32=((n%32:Nat):Int):=by omega
 by_cases hbig:32*x.length<n
 ·have hlt:val x/2^n=0:=by
   refine Nat.div_eq_of_lt (Nat.lt_of_lt_of_le (val_lt d1) ?_)
   rw[show 4294967296=2^32 from rfl,←Nat.pow_mul]
   exact Nat.pow_le_pow_right (by omega) (by omega)
  rw[hlt,dg_zero]
  (repeat' (first|(refine CmpP.go (fun hc => ?_) (fun hc => ?_)<;>first|(exfalso;omega)|(conv=>whnf))|(refine OpP.mul ?_ ?_;omega;conv=>whnf)|(refine LenP.go ?_;conv=>whnf)|(refine AKM.x ?_;conv=>whnf)|(refine CallP.go (hT _) ?_;conv=>whnf)))
  exact FinP.go rfl (cl_sl [])
 have hk:n/32≤x.length:=by omega
 have hvd:=val_drop_div d1 _ hk
 (repeat' (first|(refine CmpP.go (fun hc => ?_) (fun hc => ?_)<;>first|(exfalso;omega)|(conv=>whnf))|(refine OpP.mul ?_ ?_;omega;conv=>whnf)|(refine OpP.quo ?_ ?_ (fun _ => ?_) (fun _ _ => ?_);omega;omega;all_goals first|(exfalso;omega)|(conv=>whnf))|(refine UnP.neg ?_ ?_;omega;conv=>whnf)|(refine LenP.go ?_;conv=>whnf)|(refine AKM.x ?_;conv=>whnf)|(refine CallP.go (hT _) ?_;conv=>whnf)))
 rw[e1]
 refine AKM.loop2 (fun i _=>x.length-i) (fun (i:Nat) (o:List Nat)=>n/32≤i∧i≤x.length∧o.length=i-n/32∧Dig o∧val o+4294967296^(i-n/32)*(val (x.drop i)/2^(n%32))=val (x.drop (n/32))/2^(n%32)) (fun i o=>[(6,.int .i64 i),(5,.row 107005 0 1 0 o.length)]) (fun i o=>[(107005,107005,.rw 1 (o.map e32))]) [] [] (n/32) [] (by (conv=>whnf);exact ⟨rfl,rfl,rfl⟩) ⟨Nat.le_refl _,hk,by simp,dig_nil,by simp [val]⟩ ?_
 intro i o ⟨p0,p1,p2,p3,p5⟩ ih
 by_cases hi:i<x.length
 ·obtain ⟨d,hd⟩ : ∃ d,x[i]? = some d:=⟨_,List.getElem?_eq_getElem hi⟩
  have hdb:=d1.at hd
  have g1:=val_getD_drop hd
  have g2:=val_dropD x (i+1)
  have g3:=down_dig (e:=x.getD (i+1) 0) (V:=val (x.drop (i+1+1))) hdb hr32
  rw[←g2,←g1]at g3
  have key : ∀ t,t=d+x.getD (i+1) 0*4294967296→val (o++[t/2^(n%32)%4294967296])+4294967296^(i+1-n/32)*(val (x.drop (i+1))/2^(n%32))=val (x.drop (n/32))/2^(n%32):=fun t ht=>by
   rw[val_snoc,p2,show i+1-n/32=(i-n/32)+1 by omega,Nat.pow_succ,ht,Nat.add_assoc,Nat.mul_assoc,←Nat.mul_add,g3]
   exact p5
  by_cases hy:i+1<x.length
  ·obtain ⟨e,he⟩ : ∃ e,x[i+1]? = some e:=⟨_,List.getElem?_eq_getElem hy⟩
   have heb:=d1.at he
   have he':x[((i:Int)+1).toNat]? = some e:=by rw[show ((i:Int)+1).toNat=i+1 by omega];exact he
   rw[getD_is he]at key
   (repeat' (first|(refine CmpP.go (fun hc => ?_) (fun hc => ?_)<;>first|(exfalso;omega)|(conv=>whnf))|(refine OpP.add ?_ ?_;omega;conv=>whnf)|(refine OpP.nshl32 ?_ ?_;omega;conv=>whnf)|(refine ConvP.u64 ?_ ?_;omega;conv=>whnf)|(refine LenP.go ?_;conv=>whnf)|(refine RdP.at (by assumption) ?_ rfl ?_;omega;conv=>whnf)|(refine AKM.x ?_;conv=>whnf)))
   refine OpP.nor8r 32 (Nat.mul_mod_left _ _) (by omega) (by omega) ?_
   (conv=>whnf)
   (repeat' (first|(refine OpP.rem ?_ (fun _ _ _ => ?_) (fun _ _ _ _ => ?_);omega;all_goals first|(exfalso;omega)|(conv=>whnf))|(refine ConvP.u64 ?_ ?_;omega;conv=>whnf)))
   rw[e2]
   refine OpP.nshrv (n:=n%32) (by show n%32≤64;omega) ?_
   (conv=>whnf)
   (repeat' (first|(refine ConvP.n32 ?_;conv=>whnf)|(refine RowP.e1 ?_;conv=>whnf)))
   refine AppR.one (enc:=e32) ((d+e*4294967296)/2^(n%32)%4294967296) rfl rfl rfl (by omega) (by omega) ?_
   (conv=>whnf)
   (repeat' (refine OpP.add ?_ ?_;omega;conv=>whnf))
   exact AKM.back [(107005,107064)] (by (conv=>whnf);exact ⟨rfl,rfl,rfl⟩) (ih (i+1) (o++[(d+e*4294967296)/2^(n%32)%4294967296]) (by omega) ⟨by omega,by omega,by simp;omega,p3.append (dig_one (by omega)),key (d+e*4294967296) rfl⟩)
  ·rw[←getD_none (show x.length≤i+1 by omega),Nat.zero_mul]at key
   (repeat' (first|(refine CmpP.go (fun hc => ?_) (fun hc => ?_)<;>first|(exfalso;omega)|(conv=>whnf))|(refine OpP.add ?_ ?_;omega;conv=>whnf)|(refine OpP.rem ?_ (fun _ _ _ => ?_) (fun _ _ _ _ => ?_);omega;all_goals first|(exfalso;omega)|(conv=>whnf))|(refine ConvP.u64 ?_ ?_;omega;conv=>whnf)|(refine LenP.go ?_;conv=>whnf)|(refine RdP.at (by assumption) ?_ rfl ?_;omega;conv=>whnf)|(refine AKM.x ?_;conv=>whnf)))
   rw[e2]
   refine OpP.nshrv (n:=n%32) (by show n%32≤64;omega) ?_
   (conv=>whnf)
   (repeat' (first|(refine ConvP.n32 ?_;conv=>whnf)|(refine RowP.e1 ?_;conv=>whnf)))
   refine AppR.one (enc:=e32) (d/2^(n%32)%4294967296) rfl rfl rfl (by omega) (by omega) ?_
   (conv=>whnf)
   (repeat' (refine OpP.add ?_ ?_;omega;conv=>whnf))
   exact AKM.back [(107005,107064)] (by (conv=>whnf);exact ⟨rfl,rfl,rfl⟩) (ih (i+1) (o++[d/2^(n%32)%4294967296]) (by omega) ⟨by omega,by omega,by simp;omega,p3.append (dig_one (by omega)),key d rfl⟩)
 ·obtain rfl:i=x.length:=by omega
  clear ih
  rw[List.drop_of_length_le (Nat.le_refl _),val_nil,Nat.zero_div,Nat.mul_zero,Nat.add_zero,hvd,Nat.div_div_eq_div_mul,←pow_n32]at p5
  have hT2:=fun q=>ev_r1_Trim N o q p3 (by omega)
  rw[p5]at hT2
  (repeat' (first|(refine CmpP.go (fun hc => ?_) (fun hc => ?_)<;>first|(exfalso;omega)|(conv=>whnf))|(refine LenP.go ?_;conv=>whnf)|(refine SnR.all (fun _=>rfl) rfl ?_ ?_;(first|rfl|simp);conv=>whnf)|(refine AKM.x ?_;conv=>whnf)|(refine CallP.go (hT2 _) ?_;conv=>whnf)))
  exact FinP.go rfl (cl_sl _)
end Go.Eng

namespace Go.Eng
open F
attribute [local irreducible] AKM CmpP Req OpP UnP ConvP RdP LdR StR MkR LenP AppR AppN CpyR RowP SnR Bds SlS CallP CalP FinP pw LdM GetM SetM PutM MkM AppM SnM FlP CallR
set_option maxHeartbeats 4000000
variable {L:Lib}
theorem small_step' {V R y d t Q:Nat} (h:Q*y+R=V) (ht:t=R*4294967296+d):(t/y+4294967296*Q)*y+t%y=d+4294967296*V:=by
 have:=Nat.div_add_mod t y
 rw[←h,Nat.add_mul]
 have e:t/y*y=y*(t/y):=Nat.mul_comm _ _
 grind
theorem ev_r1_small (N:RefGLib L) (x:List Nat) (Y:Nat) (q:Bool) (d1:Dig x) (hx:x.length≤549755813888) (h0:Y≠0) (hY:Y<4294967296):Ev L 108 [.sl q (x.map e32),.int .u32 (Y:Int)] (.tup [.sl false ((dg (val x/Y)).map e32),.int .u32 ((val x%Y:Nat):Int)]):=by
 refine Ev.x N.ref01_small rfl rfl ?_
 (repeat' (first|(refine LenP.go ?_;conv=>whnf)|(refine AKM.x ?_;conv=>whnf)))
 refine MkR.go (enc:=e32) 0 x.length rfl (by omega) (by omega) ?_
 (conv=>whnf)
 (repeat' (first|(refine OpP.sub ?_ ?_;omega;conv=>whnf)|(refine LenP.go ?_;conv=>whnf)))
 refine AKM.loop3 (fun n _ _=>n) (fun (n:Nat) (o:List Nat) (r:Nat)=>n≤x.length∧o.length=x.length∧Dig o∧r<Y∧val (o.drop n)*Y+r=val (x.drop n)) (fun n o r=>[(7,.int .u64 (r:Int)),(8,.int .i64 ((n:Int)-1))]) (fun n o r=>[(11,11,.rw 1 (o.map e32))]) [] [] x.length (List.replicate x.length 0) 0 (by (conv=>whnf);exact ⟨rfl,rfl,rfl⟩) ⟨by omega,by simp,dig_zeros _,by omega,by rw[List.drop_of_length_le (Nat.le_refl _),List.drop_of_length_le (by simp)];simp [val]⟩ ?_
 intro n o r ⟨p1,p2,p3,p4,p5⟩ ih
 rcases n with _|n
 ·rw[List.drop_zero,List.drop_zero]at p5
  have hq:val x/Y=val o∧val x%Y=r:=by
   rw[←p5]
   have e1:(val o*Y+r)/Y=val o:=by
    rw[Nat.mul_comm,Nat.mul_add_div (by omega),Nat.div_eq_of_lt p4,Nat.add_zero]
   have e2:(val o*Y+r)%Y=r:=by
    rw[Nat.mul_comm,Nat.mul_add_mod,Nat.mod_eq_of_lt p4]
   exact ⟨e1,e2⟩
  have hT:=fun q=>ev_r1_Trim N o q p3 (by omega)
  rw[hq.1,hq.2,←p2]
  clear ih hq p5
  (repeat' (first|(refine CmpP.go (fun hc => ?_) (fun hc => ?_)<;>first|(exfalso;omega)|(conv=>whnf))|(refine ConvP.n32i ?_ ?_;omega;conv=>whnf)|(refine SnR.all (fun _=>rfl) rfl ?_ ?_;(first|rfl|simp);conv=>whnf)|(refine AKM.x ?_;conv=>whnf)|(refine CallP.go (hT _) ?_;conv=>whnf)))
  refine FinP.go rfl ?_
  simp only[Clean,CleanL,and_true,true_and]
  exact cl_dig _
 ·have e1:((n+1:Nat):Int)-1=n:=by omega
  rw[e1]
  obtain ⟨d,hd⟩ : ∃ d,x[n]? = some d:=⟨_,List.getElem?_eq_getElem (by omega)⟩
  have hdb:=d1.at hd
  have hR:r*4294967296+d<Y*4294967296:=by omega
  have hq0:(r*4294967296+d)/Y<4294967296:=(Nat.div_lt_iff_lt_mul (by omega)).2 (by omega)
  (repeat' (first|(refine CmpP.go (fun hc => ?_) (fun hc => ?_)<;>first|(exfalso;omega)|(conv=>whnf))|(refine Req.go ?_ ?_;omega;conv=>whnf)|(refine OpP.nshl32 ?_ ?_;omega;conv=>whnf)|(refine OpP.nor ?_ ?_;omega;conv=>whnf)|(refine OpP.nquo ?_ ?_ ?_;omega;omega;conv=>whnf)|(refine ConvP.u64 ?_ ?_;omega;conv=>whnf)|(refine ConvP.n32i ?_ ?_;omega;conv=>whnf)|(refine RdP.at (by assumption) ?_ rfl ?_;omega;conv=>whnf)|(refine AKM.x ?_;conv=>whnf)))
  obtain ⟨t,ht⟩ : ∃ t,t=r*4294967296+d:=⟨_,rfl⟩
  rw[←ht]at hR hq0 ⊢
  have hm:t%Y<Y:=Nat.mod_lt _ (by omega)
  have hst:=small_step' p5 ht
  rw[←val_getD_drop hd]at hst
  clear ht
  skip
  refine StR.dig (by omega) ?_
  (conv=>whnf)
  (repeat' (first|(refine OpP.sub ?_ ?_;omega;conv=>whnf)|(refine OpP.nrem ?_ ?_;omega;conv=>whnf)|(refine ConvP.u64 ?_ ?_;omega;conv=>whnf)))
  generalize t/Y=tq at *
  generalize t%Y=tr at *
  refine AKM.back [] (by (conv=>whnf);exact ⟨rfl,rfl,rfl⟩) (ih n _ _ (by omega) ⟨by omega,by simpa using p2,p3.set _ (by omega),hm,?_⟩)
  rw[val_getD_drop (l:=o.set n tq) (d:=tq) (by rw[List.getElem?_set_self (by omega)]),List.drop_set_of_lt (by omega)]
  exact hst
theorem cl_pair3 (a b:List Nat) (e:Int):Clean (.tup [.sl false (a.map e32),.sl false (b.map e32),.int .i64 e]):=by
 simp only[Clean,CleanL,and_true,true_and]
 exact ⟨cl_dig a,cl_dig b⟩
abbrev dmK1:List It:=[It.lp ref01_DivMod.l1,It.blk 0,
   It.code
    (((ACode.ops ref01_DivMod.r14 false).dr [0,75,79,80] []).seq
     (((ACode.ops ref01_DivMod.r15 false).dr [81,82,83,84,85] []).seq
      ((((ACode.ops ref01_DivMod.r16 false).dr [86,87,88,89,90] []).seq
         (ACode.block 2 ref01_DivMod.l2.loop)).seq
       (((ACode.ops ref01_DivMod.r57 true).dr [9,10,11,12,13,14,92,277,278,279,280,281,282,283,284]
          []).seq
        ACode.ret))))]
abbrev dmK2:List It:=[It.lp ref01_DivMod.l2,It.blk 2,It.code
       (((ACode.ops ref01_DivMod.r57 true).dr [9,10,11,12,13,14,92,277,278,279,280,281,282,283,284]
          []).seq
        ACode.ret)]
abbrev dmTM (v:List Nat) (s ul m:Nat) (j:Int):Tm:=[(14,.int .i64 j),(13,.row 85 0 1 0 m),(12,.int .i64 v.length),(11,.sl false (v.map e32)),(10,.row 69 0 1 0 ul),(9,.int .i64 (s:Int))]
abbrev dmC4:ACode:=(((ACode.ops ref01_DivMod.r39 false).dr [18,19,20,166,205,206,207] []).seq
                (((ACode.ops ref01_DivMod.r40 false).dr [208,209,210,211,212,213,214] []).seq
                 ((ACode.ops ref01_DivMod.r41 false).seq
                  ((((ACode.ops ref01_DivMod.r42 false).dr [215,216] []).seq
                     (ACode.cond 217
                      (((ACode.ops ref01_DivMod.r43 false).dr [18,217,218,219] []).seq
                       (ACode.ops ref01_DivMod.r44 false))
                      ACode.skip)).seq
                   (((ACode.ops ref01_DivMod.r45 false).dr
                      [23,24,217,220,221,222,223,224,225,226,227,228] []).seq
                    ((((ACode.ops ref01_DivMod.r46 false).dr [18,229] []).seq
                       (ACode.cond 230
                        (((ACode.ops ref01_DivMod.r47 false).dr [230,231,232] []).seq
                         ((ACode.ops ref01_DivMod.r48 false).seq
                          (((ACode.ops ref01_DivMod.r49 false).seq
                             (ACode.block 8 ref01_DivMod.l5.loop)).seq
                           ((ACode.ops ref01_DivMod.r55 false).dr
                            [25,26,235,262,263,264,265,266,267,268,269,270,271]
                            []))))
                        ACode.skip)).seq
                     ((ACode.ops ref01_DivMod.r56 false).dr [16,230,272,273,274,275,276]
                      [])))))))
abbrev dmK4:List It:=It.lp ref01_DivMod.l4::It.blk 6::It.code dmC4::It.blk 3::It.code ((ACode.ops ref01_DivMod.r18 false).dr [93,94] [])::dmK2
section
variable {A W C w y:List Nat} {j m s ul q:Nat} {Q:Tm→Mem→Prop}
theorem win_at {e i n:Nat} (hi:i=A.length+n) (he:W[n]? = some e):(A++W++C)[i]? = some e:=by
 rw[win_get hi (List.getElem?_eq_some_iff.1 he).1];exact he
theorem dm_rest (hA:A.length=j) (hW:W.length=y.length+1) (D2:Dig W) (hVD:Dig y) (hv2l:2≤y.length) (hvL:y.length≤549755813888) (hV0:0<val y) (hjl:j≤1099511627776)
  (hul:ul=j+(y.length+1)+C.length) (hwm:w.length=m) (hjm:j<m)
  (r1:q<4294967296) (r2:val W/val y≤q) (r3:q≤val W/val y+1)
  (hk : ∀ (W':List Nat) (q':Nat),W'.length=y.length+1→Dig W'→val W'=val W%val y→q'=val W/val y→AKM L dmK2 (dmTM y s ul m ((j:Int)-1)) [(69,101021,.rw 1 ((A++W'++C).map e32)),(85,85,.rw 1 ((w.set j q').map e32))] Q) :
  AKM L dmK4 ([(20,.int .i64 0),(19,.int .u64 0),(18,.int .u64 0),(16,.int .u64 (q:Int))]++dmTM y s ul m (j:Int)) [(69,101021,.rw 1 ((A++W++C).map e32)),(85,85,.rw 1 (w.map e32))] Q:=by
 refine AKM.loop4 (fun i _ _ _=>y.length-i) (fun (i:Nat) (Z:List Nat) (c b:Nat)=>i≤y.length∧Z.length=y.length+1∧Dig Z∧c<4294967296∧b≤1∧Z.drop i=W.drop i∧val (Z.take i)+q*val (y.take i)=val (W.take i)+4294967296^i*(c+b)) (fun i Z c b=>[(20,.int .i64 i),(18,.int .u64 (b:Int)),(19,.int .u64 (c:Int))]) (fun i Z c b=>[(69,101021,.rw 1 ((A++Z++C).map e32))]) [] [] 0 W 0 0 (by (conv=>whnf);exact ⟨rfl,rfl,rfl⟩) ⟨by omega,hW,D2,by omega,by omega,rfl,by simp [val]⟩ ?_
 intro i Z c b ⟨p1,p2,p3,p4,p5,p6,p7⟩ ih
 by_cases hi:i<y.length
 ·obtain ⟨d,hd⟩ : ∃ d,y[i]? = some d:=⟨_,List.getElem?_eq_getElem hi⟩
  obtain ⟨u,hu⟩ : ∃ u,Z[i]? = some u:=⟨_,List.getElem?_eq_getElem (by omega)⟩
  have hdb:=hVD.at hd
  have hub:=p3.at hu
  have hru:(A++Z++C)[((i:Int)+(j:Int)).toNat]? = some u:=win_at (by omega) hu
  obtain ⟨pr,hpr⟩ : ∃ pr,pr=c+q*d:=⟨_,rfl⟩
  obtain ⟨m1,m2,m3⟩:=ms_carry r1 hdb p4 (show pr=q*d+c by omega)
  have hWi:W[i]? = some u:=by
   have e1:(Z.drop i)[0]? = (W.drop i)[0]? := by rw[p6]
   simpa [hu] using e1.symm
  have hdr : ∀ w,(Z.set i w).drop (i+1)=W.drop (i+1):=fun w=>by
   rw[List.drop_set_of_lt (by omega)]
   have e1:(Z.drop i).drop 1=(W.drop i).drop 1:=by rw[p6]
   simpa using e1
  have hst : ∀ have' take w bw',take=pr%4294967296+b→((have'=u∧bw'=0∧take≤u)∨(have'=u+4294967296∧bw'=1∧u<take))→w+take=have'→val ((Z.set i w).take (i+1))+q*val (y.take (i+1))=val (W.take (i+1))+4294967296^(i+1)*(pr/4294967296+bw'):=fun have' take w bw' a1 a2 a3=>by
   rw[val_set_take (by omega),val_take_succ hd,val_take_succ hWi,Nat.pow_succ]
   exact ms_step2 p7 hpr a1 a2 a3
  by_cases hlt:u<pr%4294967296+b
  ·have h3:=hst (u+4294967296) (pr%4294967296+b) (u+4294967296-(pr%4294967296+b)) 1 rfl (Or.inr ⟨rfl,rfl,hlt⟩) (by omega)
   (repeat' (first|(refine CmpP.go (fun hc => ?_) (fun hc => ?_)<;>first|(exfalso;omega)|(conv=>whnf))|(refine Req.go ?_ ?_;omega;conv=>whnf)|(refine OpP.add ?_ ?_;omega;conv=>whnf)|(refine OpP.nadd ?_ ?_;omega;conv=>whnf)|(refine OpP.nmul ?_ ?_;omega;conv=>whnf)|(refine OpP.nand32 ?_ ?_;omega;conv=>whnf)|(refine OpP.nsub ?_ ?_ ?_;omega;omega;conv=>whnf)|(refine OpP.nshr32 ?_;conv=>whnf)|(refine OpP.naddB ?_ ?_;omega;conv=>whnf)|(refine ConvP.u64 ?_ ?_;omega;conv=>whnf)|(refine ConvP.n32i ?_ ?_;omega;conv=>whnf)|(refine RdP.at (by assumption) ?_ rfl ?_;omega;conv=>whnf)|(refine LdR.dat (by assumption) ?_;conv=>whnf)|(refine AKM.x ?_;conv=>whnf)))
   rw[←hpr]
   skip
   refine StR.win i (by omega) (by omega) ?_
   (conv=>whnf)
   (repeat' (refine OpP.add ?_ ?_;omega;conv=>whnf))
   exact AKM.back [] (by (conv=>whnf);exact ⟨rfl,rfl,rfl⟩) (ih (i+1) (Z.set i (u+4294967296-(pr%4294967296+b))) (pr/4294967296) 1 (by omega) ⟨by omega,by simpa using p2,p3.set _ (by omega),m1,by omega,hdr _,h3⟩)
  ·have h3:=hst u (pr%4294967296+b) (u-(pr%4294967296+b)) 0 rfl (Or.inl ⟨rfl,rfl,by omega⟩) (by omega)
   (repeat' (first|(refine CmpP.go (fun hc => ?_) (fun hc => ?_)<;>first|(exfalso;omega)|(conv=>whnf))|(refine Req.go ?_ ?_;omega;conv=>whnf)|(refine OpP.add ?_ ?_;omega;conv=>whnf)|(refine OpP.nadd ?_ ?_;omega;conv=>whnf)|(refine OpP.nmul ?_ ?_;omega;conv=>whnf)|(refine OpP.nand32 ?_ ?_;omega;conv=>whnf)|(refine OpP.nsub ?_ ?_ ?_;omega;omega;conv=>whnf)|(refine OpP.nshr32 ?_;conv=>whnf)|(refine ConvP.u64 ?_ ?_;omega;conv=>whnf)|(refine ConvP.n32i ?_ ?_;omega;conv=>whnf)|(refine RdP.at (by assumption) ?_ rfl ?_;omega;conv=>whnf)|(refine LdR.dat (by assumption) ?_;conv=>whnf)|(refine AKM.x ?_;conv=>whnf)))
   rw[←hpr]
   skip
   refine StR.win i (by omega) (by omega) ?_
   (conv=>whnf)
   (repeat' (refine OpP.add ?_ ?_;omega;conv=>whnf))
   exact AKM.back [] (by (conv=>whnf);exact ⟨rfl,rfl,rfl⟩) (ih (i+1) (Z.set i (u-(pr%4294967296+b))) (pr/4294967296) 0 (by omega) ⟨by omega,by simpa using p2,p3.set _ (by omega),m1,by omega,hdr _,h3⟩)
 ·obtain rfl:i=y.length:=by omega
  clear ih
  obtain ⟨u,hu⟩ : ∃ u,Z[y.length]? = some u:=⟨_,List.getElem?_eq_getElem (by omega)⟩
  have hub:=p3.at hu
  have hru:(A++Z++C)[((j:Int)+(y.length:Int)).toNat]? = some u:=win_at (by omega) hu
  have hWi:W[y.length]? = some u:=by
   have e1:(Z.drop y.length)[0]? = (W.drop y.length)[0]? := by rw[p6]
   simpa [hu] using e1.symm
  rw[val_take_all (Nat.le_refl y.length)]at p7
  have eW:val W=val (W.take y.length)+4294967296^y.length*u:=by
   rw[←val_take_succ hWi,val_take_all (by omega)]
  have hst : ∀ have' take w bw',take=c+b→((have'=u∧bw'=0∧take≤u)∨(have'=u+4294967296∧bw'=1∧u<take))→w+take=have'→val (Z.set y.length w)+q*val y=val W+4294967296^y.length*4294967296*bw':=fun have' take w bw' a1 a2 a3=>by
   have h1:=ms_last2 p7 a1 a2 a3
   rw[←eW,←val_set_take (show y.length<Z.length by omega),val_take_all (by simp;omega)]at h1
   exact h1
  by_cases hlt:u<c+b
  ·have h3:=hst (u+4294967296) (c+b) (u+4294967296-(c+b)) 1 rfl (Or.inr ⟨rfl,rfl,hlt⟩) (by omega)
   have hXD:Dig (Z.set y.length (u+4294967296-(c+b))):=p3.set _ (by omega)
   have hXl:(Z.set y.length (u+4294967296-(c+b))).length=y.length+1:=by simpa using p2
   rw[Nat.mul_one]at h3
   have hU':=val_lt hXD
   rw[hXl,Nat.pow_succ]at hU'
   obtain ⟨y1,y2,y3⟩:=digit_back hV0 r3 hU' h3
   (repeat' (first|(refine CmpP.go (fun hc => ?_) (fun hc => ?_)<;>first|(exfalso;omega)|(conv=>whnf))|(refine Req.go ?_ ?_;omega;conv=>whnf)|(refine OpP.add ?_ ?_;omega;conv=>whnf)|(refine OpP.nadd ?_ ?_;omega;conv=>whnf)|(refine OpP.nsub ?_ ?_ ?_;omega;omega;conv=>whnf)|(refine OpP.naddB ?_ ?_;omega;conv=>whnf)|(refine ConvP.u64 ?_ ?_;omega;conv=>whnf)|(refine ConvP.n32i ?_ ?_;omega;conv=>whnf)|(refine LdR.dat (by assumption) ?_;conv=>whnf)|(refine AKM.x ?_;conv=>whnf)))
   refine StR.win y.length (by omega) (by omega) ?_
   (conv=>whnf)
   (repeat' (first|(refine CmpP.go (fun hc => ?_) (fun hc => ?_)<;>first|(exfalso;omega)|(conv=>whnf))|(refine OpP.nsub ?_ ?_ ?_;omega;omega;conv=>whnf)))
   clear p7 p6 eW hu hWi hub hru p2 p3 hst
   generalize Z.set y.length (u+4294967296-(c+b))=X at *
   have hRV:val W%val y<val y:=Nat.mod_lt _ hV0
   have hVl:=val_lt hVD
   obtain ⟨xw,hxw⟩ : ∃ xw,X[y.length]? = some xw:=⟨_,List.getElem?_eq_getElem (by omega)⟩
   have eX:val X=val (X.take y.length)+4294967296^y.length*xw:=by
    rw[←val_take_succ hxw,val_take_all (by omega)]
   have hqb:q-1<4294967296:=by omega
   refine AKM.loop3 (fun i _ _=>y.length-i) (fun (i:Nat) (Z:List Nat) (c:Nat)=>i≤y.length∧Z.length=y.length+1∧Dig Z∧c≤1∧Z.drop i=X.drop i∧val (Z.take i)+4294967296^i*c=val (X.take i)+val (y.take i)) (fun i Z c=>[(26,.int .i64 i),(25,.int .u64 (c:Int))]) (fun i Z c=>[(69,101021,.rw 1 ((A++Z++C).map e32))]) [] [] 0 X 0 (by (conv=>whnf);exact ⟨rfl,rfl,rfl⟩) ⟨by omega,hXl,hXD,by omega,rfl,by simp [val]⟩ ?_
   intro i Z c ⟨p1,p2,p3,p4,p6,p7⟩ ih
   by_cases hi:i<y.length
   ·obtain ⟨d,hd⟩ : ∃ d,y[i]? = some d:=⟨_,List.getElem?_eq_getElem hi⟩
    obtain ⟨u,hu⟩ : ∃ u,Z[i]? = some u:=⟨_,List.getElem?_eq_getElem (by omega)⟩
    have hdb:=hVD.at hd
    have hub:=p3.at hu
    have hru:(A++Z++C)[((i:Int)+(j:Int)).toNat]? = some u:=win_at (by omega) hu
    have hXi:X[i]? = some u:=by
     have e1:(Z.drop i)[0]? = (X.drop i)[0]? := by rw[p6]
     simpa [hu] using e1.symm
    have hab:=ab_step (d:=d) (w:=u) (t:=c+(u+d)) p7 (by omega)
    (repeat' (first|(refine CmpP.go (fun hc => ?_) (fun hc => ?_)<;>first|(exfalso;omega)|(conv=>whnf))|(refine Req.go ?_ ?_;omega;conv=>whnf)|(refine OpP.add ?_ ?_;omega;conv=>whnf)|(refine OpP.nadd ?_ ?_;omega;conv=>whnf)|(refine ConvP.u64 ?_ ?_;omega;conv=>whnf)|(refine ConvP.n32 ?_;conv=>whnf)|(refine RdP.at (by assumption) ?_ rfl ?_;omega;conv=>whnf)|(refine LdR.dat (by assumption) ?_;conv=>whnf)|(refine AKM.x ?_;conv=>whnf)))
    generalize ht2:c+(u+d)=t2 at *
    refine StR.win i (by omega) (by omega) ?_
    (conv=>whnf)
    (repeat' (first|(refine OpP.add ?_ ?_;omega;conv=>whnf)|(refine OpP.nshr32 ?_;conv=>whnf)))
    refine AKM.back [] (by (conv=>whnf);exact ⟨rfl,rfl,rfl⟩) (ih (i+1) (Z.set i (t2%4294967296)) (t2/4294967296) (by omega) ⟨by omega,by simpa using p2,p3.set _ (by omega),by omega,?_,?_⟩)
    ·rw[List.drop_set_of_lt (by omega)]
     have e1:(Z.drop i).drop 1=(X.drop i).drop 1:=by rw[p6]
     simpa using e1
    ·rw[val_set_take (by omega),val_take_succ hd,val_take_succ hXi,Nat.pow_succ]
     exact hab
   ·obtain rfl:i=y.length:=by omega
    clear ih
    obtain ⟨u,hu⟩ : ∃ u,Z[y.length]? = some u:=⟨_,List.getElem?_eq_getElem (by omega)⟩
    have hub:=p3.at hu
    have hru:(A++Z++C)[((j:Int)+(y.length:Int)).toNat]? = some u:=win_at (by omega) hu
    have hXi:X[y.length]? = some u:=by
     have e1:(Z.drop y.length)[0]? = (X.drop y.length)[0]? := by rw[p6]
     simpa [hu] using e1.symm
    rw[hXi]at hxw
    obtain rfl:u=xw:=by simpa using hxw
    rw[val_take_all (Nat.le_refl y.length)]at p7
    have hZl:=val_lt (p3.take y.length)
    rw[List.length_take,Nat.min_eq_left (by omega)]at hZl
    rw[eX]at y3
    have hend:=ab_last p7 y3 (by omega) hZl
    rw[←val_set_take (show y.length<Z.length by omega),val_take_all (by simp;omega)]at hend
    (repeat' (first|(refine CmpP.go (fun hc => ?_) (fun hc => ?_)<;>first|(exfalso;omega)|(conv=>whnf))|(refine Req.go ?_ ?_;omega;conv=>whnf)|(refine OpP.add ?_ ?_;omega;conv=>whnf)|(refine OpP.nadd4 ?_;conv=>whnf)|(refine ConvP.n32i ?_ ?_;omega;conv=>whnf)|(refine LdR.dat (by assumption) ?_;conv=>whnf)|(refine AKM.x ?_;conv=>whnf)))
    refine StR.win y.length (by omega) (by omega) ?_
    (conv=>whnf)
    (repeat' (first|(refine Req.go ?_ ?_;omega;conv=>whnf)|(refine ConvP.n32i ?_ ?_;omega;conv=>whnf)))
    refine StR.dig (by omega) ?_
    (conv=>whnf)
    (repeat' (refine OpP.sub ?_ ?_;omega;conv=>whnf))
    exact AKM.back [] (by (conv=>whnf);exact ⟨rfl,rfl,rfl⟩) (hk _ _ (by simpa using p2) (p3.set _ (by omega)) hend y1)
  ·have h3:=hst u (c+b) (u-(c+b)) 0 rfl (Or.inl ⟨rfl,rfl,by omega⟩) (by omega)
   rw[Nat.mul_zero,Nat.add_zero]at h3
   obtain ⟨y1,y2⟩:=digit_ok hV0 r2 h3
   (repeat' (first|(refine CmpP.go (fun hc => ?_) (fun hc => ?_)<;>first|(exfalso;omega)|(conv=>whnf))|(refine Req.go ?_ ?_;omega;conv=>whnf)|(refine OpP.add ?_ ?_;omega;conv=>whnf)|(refine OpP.nadd ?_ ?_;omega;conv=>whnf)|(refine OpP.nsub ?_ ?_ ?_;omega;omega;conv=>whnf)|(refine ConvP.u64 ?_ ?_;omega;conv=>whnf)|(refine ConvP.n32i ?_ ?_;omega;conv=>whnf)|(refine LdR.dat (by assumption) ?_;conv=>whnf)|(refine AKM.x ?_;conv=>whnf)))
   refine StR.win y.length (by omega) (by omega) ?_
   (conv=>whnf)
   (repeat' (first|(refine CmpP.go (fun hc => ?_) (fun hc => ?_)<;>first|(exfalso;omega)|(conv=>whnf))|(refine Req.go ?_ ?_;omega;conv=>whnf)|(refine ConvP.n32i ?_ ?_;omega;conv=>whnf)))
   refine StR.dig (by omega) ?_
   (conv=>whnf)
   (repeat' (refine OpP.sub ?_ ?_;omega;conv=>whnf))
   exact AKM.back [] (by (conv=>whnf);exact ⟨rfl,rfl,rfl⟩) (hk _ _ (by simpa using p2) (p3.set _ (by omega)) y2 y1)
theorem dm_iter (hA:A.length=j) (hW:W.length=y.length+1) (D2:Dig W) (hVD:Dig y) (hv2l:2≤y.length) (hvL:y.length≤549755813888) (hV0:0<val y) (hjl:j≤1099511627776)
  (n2:4294967296^(y.length-1)*2147483648≤val y) (g2:val W<4294967296*val y) (hul:ul=j+(y.length+1)+C.length) (hwm:w.length=m) (hjm:j<m)
  (hk : ∀ (W':List Nat) (q':Nat),W'.length=y.length+1→Dig W'→val W'=val W%val y→q'=val W/val y→AKM L dmK2 (dmTM y s ul m ((j:Int)-1)) [(69,101021,.rw 1 ((A++W'++C).map e32)),(85,85,.rw 1 ((w.set j q').map e32))] Q) :
  AKM L (.code ref01_DivMod.l2::dmK2) (dmTM y s ul m (j:Int)) [(69,101021,.rw 1 ((A++W++C).map e32)),(85,85,.rw 1 (w.map e32))] Q:=by
 obtain ⟨UL,a1,a2⟩:=val_top3 D2 (n:=y.length+1) (by omega) (by omega)
 obtain ⟨VL,b5,b6⟩:=val_top2 hVD (n:=y.length) hv2l (by omega)
 obtain ⟨u0,w0⟩ : ∃ d,W[y.length]? = some d:=⟨_,List.getElem?_eq_getElem (by omega)⟩
 obtain ⟨u1,w1⟩ : ∃ d,W[y.length-1]? = some d:=⟨_,List.getElem?_eq_getElem (by omega)⟩
 obtain ⟨u2,w2⟩ : ∃ d,W[y.length-2]? = some d:=⟨_,List.getElem?_eq_getElem (by omega)⟩
 obtain ⟨f1,x1⟩ : ∃ d,y[y.length-1]? = some d:=⟨_,List.getElem?_eq_getElem (by omega)⟩
 obtain ⟨f2,x2⟩ : ∃ d,y[y.length-2]? = some d:=⟨_,List.getElem?_eq_getElem (by omega)⟩
 rw[show y.length+1-3=y.length-2 by omega,show y.length+1-2=y.length-1 by omega,show y.length+1-1=y.length by omega,getD_is w0,getD_is w1,getD_is w2]at a2
 rw[show y.length+1-3=y.length-2 by omega]at a1
 rw[getD_is x1,getD_is x2]at b6
 have hf1:=top_ge hVD (k:=y.length-1) (by omega) n2 x1
 have k0:=D2.at w0
 have k1:=D2.at w1
 have k2:=D2.at w2
 have k3:=hVD.at x1
 have k4:=hVD.at x2
 have z1:y[((y.length:Int)-1).toNat]? = some f1:=by rw[show ((y.length:Int)-1).toNat=y.length-1 by omega];exact x1
 have z2:y[((y.length:Int)-2).toNat]? = some f2:=by rw[show ((y.length:Int)-2).toNat=y.length-2 by omega];exact x2
 have hr0:(A++W++C)[((j:Int)+(y.length:Int)).toNat]? = some u0:=win_at (by omega) w0
 (repeat' (first|(refine CmpP.go (fun hc => ?_) (fun hc => ?_)<;>first|(exfalso;omega)|(conv=>whnf))|(refine Req.go ?_ ?_;omega;conv=>whnf)|(refine OpP.add ?_ ?_;omega;conv=>whnf)|(refine OpP.sub ?_ ?_;omega;conv=>whnf)|(refine OpP.nshl32 ?_ ?_;omega;conv=>whnf)|(refine ConvP.u64 ?_ ?_;omega;conv=>whnf)|(refine LdR.dat (by assumption) ?_;conv=>whnf)|(refine AKM.x ?_;conv=>whnf)))
 have hr1:(A++W++C)[((j:Int)+(y.length:Int)-1).toNat]? = some u1:=win_at (by omega) w1
 refine LdR.dai hr1 ?_
 (conv=>whnf)
 refine ConvP.n64 (by omega) ?_
 (conv=>whnf)
 refine OpP.nor (by omega) ?_
 (conv=>whnf)
 clear hr0 hr1
 have hr2:(A++W++C)[((j:Int)+(y.length:Int)-2).toNat]? = some u2:=win_at (by omega) w2
 generalize htop:u0*4294967296+u1=top at *
 have htb:top≤18446744073709551615:=by omega
 have hU:val W=UL+4294967296^(y.length-2)*(u2+4294967296*top):=by rw[a2,show u1+4294967296*u0=top by omega]
 (repeat' (first|(refine OpP.sub ?_ ?_;omega;conv=>whnf)|(refine OpP.nrem ?_ ?_;omega;conv=>whnf)|(refine OpP.nquo ?_ ?_ ?_;omega;omega;conv=>whnf)|(refine ConvP.u64 ?_ ?_;omega;conv=>whnf)|(refine RdP.at (by assumption) ?_ rfl ?_;omega;conv=>whnf)))
 refine AKM.loop2 (fun q _=>q) (fun (q r:Nat)=>Gs (val W) (val y) f1 f2 u2 top q r) (fun q r=>[(16,.int .u64 (q:Int)),(17,.int .u64 (r:Int))]) (fun _ _=>[]) [] [] (top/f1) (top%f1) (by (conv=>whnf);exact ⟨rfl,rfl,rfl⟩) (Gs.start hU b6 a1 k2 hV0 (by omega) k3) ?_
 intro q r g ih2
 have hqt:q≤top:=by
  have h3:=g.hq
  have h4:q*1≤q*f1:=Nat.mul_le_mul_left q (by omega)
  omega
 have hr:=g.hr
 have hge:=g.ge
 by_cases hb:4294967296≤q
 ·obtain ⟨y1,y2,y3⟩:=g.next hU b6 a1 hV0 g2 (Or.inl hb)
  (repeat' (first|(refine CmpP.go (fun hc => ?_) (fun hc => ?_)<;>first|(exfalso;omega)|(conv=>whnf))|(refine OpP.sub ?_ ?_;omega;conv=>whnf)|(refine OpP.nadd ?_ ?_;omega;conv=>whnf)|(refine OpP.nsub ?_ ?_ ?_;omega;omega;conv=>whnf)|(refine ConvP.u64 ?_ ?_;omega;conv=>whnf)|(refine RdP.at (by assumption) ?_ rfl ?_;omega;conv=>whnf)|(refine AKM.x ?_;conv=>whnf)))
  ·obtain ⟨t1,t2⟩:=guess_stop hU b6 b5 hf1 k4 g2 y2 (Or.inr (by omega))
   exact AKM.back [] (by (conv=>whnf);exact ⟨rfl,rfl,rfl⟩) (dm_rest (w:=w) (C:=C) hA hW D2 hVD hv2l hvL hV0 hjl hul hwm hjm t1 y3 t2 hk)
  ·exact AKM.back [] (by (conv=>whnf);exact ⟨rfl,rfl,rfl⟩) (ih2 (q-1) (r+f1) (by omega) ⟨y2,by omega,y3⟩)
 ·have hmq:=mul_le_dig (show q<4294967296 by omega) k4
  by_cases hb2:r*4294967296+u2<q*f2
  ·obtain ⟨y1,y2,y3⟩:=g.next hU b6 a1 hV0 g2 (Or.inr hb2)
   (repeat' (first|(refine CmpP.go (fun hc => ?_) (fun hc => ?_)<;>first|(exfalso;omega)|(conv=>whnf))|(refine Req.go ?_ ?_;omega;conv=>whnf)|(refine OpP.add ?_ ?_;omega;conv=>whnf)|(refine OpP.sub ?_ ?_;omega;conv=>whnf)|(refine OpP.nadd ?_ ?_;omega;conv=>whnf)|(refine OpP.nmul ?_ ?_;omega;conv=>whnf)|(refine OpP.nshl32 ?_ ?_;omega;conv=>whnf)|(refine OpP.nor ?_ ?_;omega;conv=>whnf)|(refine OpP.nsub ?_ ?_ ?_;omega;omega;conv=>whnf)|(refine ConvP.u64 ?_ ?_;omega;conv=>whnf)|(refine RdP.at (by assumption) ?_ rfl ?_;omega;conv=>whnf)|(refine LdR.dat (by assumption) ?_;conv=>whnf)|(refine AKM.x ?_;conv=>whnf)))
   ·obtain ⟨t1,t2⟩:=guess_stop hU b6 b5 hf1 k4 g2 y2 (Or.inr (by omega))
    exact AKM.back [] (by (conv=>whnf);exact ⟨rfl,rfl,rfl⟩) (dm_rest (w:=w) (C:=C) hA hW D2 hVD hv2l hvL hV0 hjl hul hwm hjm t1 y3 t2 hk)
   ·exact AKM.back [] (by (conv=>whnf);exact ⟨rfl,rfl,rfl⟩) (ih2 (q-1) (r+f1) (by omega) ⟨y2,by omega,y3⟩)
  ·obtain ⟨t1,t2⟩:=guess_stop hU b6 b5 hf1 k4 g2 g.hq (Or.inl ⟨by omega,by omega⟩)
   (repeat' (first|(refine CmpP.go (fun hc => ?_) (fun hc => ?_)<;>first|(exfalso;omega)|(conv=>whnf))|(refine Req.go ?_ ?_;omega;conv=>whnf)|(refine OpP.add ?_ ?_;omega;conv=>whnf)|(refine OpP.sub ?_ ?_;omega;conv=>whnf)|(refine OpP.nmul ?_ ?_;omega;conv=>whnf)|(refine OpP.nshl32 ?_ ?_;omega;conv=>whnf)|(refine OpP.nor ?_ ?_;omega;conv=>whnf)|(refine ConvP.u64 ?_ ?_;omega;conv=>whnf)|(refine RdP.at (by assumption) ?_ rfl ?_;omega;conv=>whnf)|(refine LdR.dat (by assumption) ?_;conv=>whnf)|(refine AKM.x ?_;conv=>whnf)))
   exact AKM.back [] (by (conv=>whnf);exact ⟨rfl,rfl,rfl⟩) (dm_rest (w:=w) (C:=C) hA hW D2 hVD hv2l hvL hV0 hjl hul hwm hjm t1 hge t2 hk)
end
theorem val_top0 {l:List Nat} (hD:Dig l) (h:l[l.length-1]? = some 0):val l<4294967296^(l.length-1):=by
 have hl:=(List.getElem?_eq_some_iff.1 h).1
 have h1:=val_split l (l.length-1) (by omega)
 have h2:=val_getD_drop h
 rw[List.drop_of_length_le (show l.length≤l.length-1+1 by omega),val_nil]at h2
 rw[h2]at h1
 simp only[Nat.mul_zero,Nat.add_zero]at h1
 have h3:=val_lt (hD.take (l.length-1))
 rw[List.length_take,Nat.min_eq_left (by omega)]at h3
 omega
theorem dm_main (N:RefGLib L) {X Y s:Nat} {x u y:List Nat} (hY:Y≠0) (hs31:s≤31) (hUD:Dig u) (hUu:val u=X*2^s) (hU0:u[u.length-1]? = some 0) (hul:x.length+1≤u.length∧u.length≤549755813888) (hVD:Dig y) (hVv:val y=Y*2^s) (hvl:2≤y.length∧y.length≤x.length) (n2:4294967296^(y.length-1)*2147483648≤val y) :
  AKM L dmK1 [(10,.row 69 0 1 0 u.length),(11,.sl false (y.map e32)),(9,.int .i64 (s:Int)),(0,.sl false (x.map e32))] [(69,101021,.rw 1 (u.map e32))] (RetX ref01_DivMod (.tup [.sl false ((dg (X/Y)).map e32),.sl false ((dg (X%Y)).map e32),.int .i64 0])):=by
 refine AKM.loop1 (fun (_:Nat)=>0) (fun _=>True) (fun _=>[]) (fun _=>[]) [] [] 0 (by (conv=>whnf);exact ⟨rfl,rfl,rfl⟩) trivial ?_
 intro _ _ _
 (repeat' (first|(refine CmpP.go (fun hc => ?_) (fun hc => ?_)<;>first|(exfalso;omega)|(conv=>whnf))|(refine OpP.add ?_ ?_;omega;conv=>whnf)|(refine OpP.sub ?_ ?_;omega;conv=>whnf)|(refine LenP.go ?_;conv=>whnf)|(refine AKM.x ?_;conv=>whnf)))
 refine MkR.go (enc:=e32) 0 (u.length-y.length) (by rfl) (by omega) (by omega) ?_
 (conv=>whnf)
 (repeat' (refine OpP.sub ?_ ?_;omega;conv=>whnf))
 have hV0:0<val y:=by
  have:=pow_pos' (y.length-1)
  omega
 have hVlt:=val_lt hVD
 generalize hm:u.length-y.length=m at *
 have hi0:val (u.drop m)<val y:=by
  have h1:(u.drop m).length=y.length:=by simp;omega
  have h2:=val_top0 (l:=u.drop m) (hUD.drop _) (by rw[h1,List.getElem?_drop,show m+(y.length-1)=u.length-1 by omega];exact hU0)
  rw[h1]at h2
  omega
 rw[show (u.length:Int)-y.length-1=((m:Nat):Int)-1 by omega]
 refine AKM.loop3 (fun n _ _=>n) (fun (n:Nat) (o w:List Nat)=>n≤m∧o.length=u.length∧Dig o∧w.length=m∧Dig w∧val (o.drop n)<val y∧X*2^s=val (o.take n)+4294967296^n*(val (w.drop n)*val y+val (o.drop n))) (fun n o w=>[(14,.int .i64 ((n:Int)-1))]) (fun n o w=>[(69,101021,.rw 1 (o.map e32)),(85,85,.rw 1 (w.map e32))]) [] [] m u (List.replicate m 0) (by (conv=>whnf);exact ⟨rfl,rfl,rfl⟩) ⟨by omega,rfl,hUD,by simp,dig_zeros _,hi0,by rw[←hUu,List.drop_of_length_le (show (List.replicate m 0).length≤m by simp),val_nil,Nat.zero_mul,Nat.zero_add];exact val_split u m (by omega)⟩ ?_
 intro n o w ⟨p1,p2,p3,p4,p5,p6,p7⟩ ih
 rcases n with _|j
 ·clear ih
  rw[List.drop_zero]at p6
  rw[List.take_zero,List.drop_zero,List.drop_zero,val_nil,Nat.zero_add,Nat.pow_zero,Nat.one_mul]at p7
  have hdr:val o=val (o.take y.length):=by
   have h1:=val_splitD o y.length
   rcases Nat.eq_zero_or_pos (val (o.drop y.length)) with h2|h2
   ·rw[h2,Nat.mul_zero,Nat.add_zero]at h1;exact h1
   ·have h3:4294967296^y.length*1≤4294967296^y.length*val (o.drop y.length):=Nat.mul_le_mul_left _ h2
    omega
  have hX0:X/Y=val w∧X%Y=val o/2^s:=by
   obtain ⟨z1,z2⟩:=div_scale (X:=X) (Y:=Y) (Nat.two_pow_pos s)
   rw[←z1,←z2,←hVv,p7]
   have e1:(val w*val y+val o)/val y=val w:=by
    rw[Nat.mul_comm,Nat.mul_add_div hV0,Nat.div_eq_of_lt p6,Nat.add_zero]
   have e2:(val w*val y+val o)%val y=val o:=by
    rw[Nat.mul_comm,Nat.mul_add_mod,Nat.mod_eq_of_lt p6]
   rw[e1,e2]
   exact ⟨rfl,rfl⟩
  rw[hX0.1,hX0.2,hdr]
  have hT:=fun q=>ev_r1_Trim N w q p5 (by omega)
  have htl:(o.take y.length).length≤549755813888:=by rw[List.length_take];omega
  clear p7 hX0 hi0
  rw[←p4]
  rcases Nat.eq_zero_or_pos s with h0|h0
  ·subst h0
   have hS:=fun q=>ev_r1_Shl N (o.take y.length) q 0 (p3.take _) htl (by omega)
   rw[Nat.pow_zero,Nat.mul_one]at hS
   rw[Nat.pow_zero,Nat.div_one]
   (repeat' (first|(refine CmpP.go (fun hc => ?_) (fun hc => ?_)<;>first|(exfalso;omega)|(conv=>whnf))|(refine SnR.all (fun _=>rfl) rfl ?_ ?_;(first|rfl|simp);conv=>whnf)|(refine AKM.x ?_;conv=>whnf)|(refine CallP.go (hT _) ?_;conv=>whnf)))
   refine Bds.up y.length rfl (by omega) ?_
   (conv=>whnf)
   refine UnP.neg (by omega) ?_
   (conv=>whnf)
   refine SnR.part (enc:=e32) (fun _=>rfl) (by omega) ?_
   (conv=>whnf)
   rw[List.drop_zero,Nat.sub_zero,show -((0:Nat):Int)=((0:Nat):Int) by omega]
   (repeat' (refine CallP.go (hS _) ?_;conv=>whnf))
   exact FinP.go rfl (cl_pair3 _ _ _)
  ·have hS:=fun q=>ev_r1_Shr N (o.take y.length) q s (p3.take _) htl (by omega)
   (repeat' (first|(refine CmpP.go (fun hc => ?_) (fun hc => ?_)<;>first|(exfalso;omega)|(conv=>whnf))|(refine SnR.all (fun _=>rfl) rfl ?_ ?_;(first|rfl|simp);conv=>whnf)|(refine AKM.x ?_;conv=>whnf)|(refine CallP.go (hT _) ?_;conv=>whnf)))
   refine Bds.up y.length rfl (by omega) ?_
   (conv=>whnf)
   refine UnP.neg (by omega) ?_
   (conv=>whnf)
   refine SnR.part (enc:=e32) (fun _=>rfl) (by omega) ?_
   (conv=>whnf)
   rw[List.drop_zero,Nat.sub_zero]
   (repeat' (refine CallP.go (hS _) ?_;conv=>whnf))
   exact FinP.go rfl (cl_pair3 _ _ _)
 ·have e3:((j+1:Nat):Int)-1=j:=by omega
  rw[e3]
  obtain ⟨A,W,C,hA,hW,rfl⟩:=dv_cut o j (y.length+1) (by omega)
  obtain ⟨g1,g2,g3⟩:=dv_pre hA hW p3 p6 hVlt
  obtain ⟨D1,D2,D3⟩:=dig_win p3
  have hqb:val W/val y<4294967296:=(Nat.div_lt_iff_lt_mul hV0).2 g2
  have hWV:val W=val W/val y*val y+val W%val y:=by rw[Nat.mul_comm];exact (Nat.div_add_mod _ _).symm
  have hWl:val W%val y<val y:=Nat.mod_lt _ hV0
  have hTot:X*2^s=val A+4294967296^j*val W+4294967296^j*4294967296*(val (w.drop (j+1))*val y):=by
   rw[p7,Nat.mul_add,←g3,Nat.pow_succ];omega
  have hTot2:=dv_next hTot hWV
  have hset : ∀ q',q'=val W/val y→val ((w.set j q').drop j)=val W/val y+4294967296*val (w.drop (j+1)):=fun q' h=>by
   rw[val_getD_drop (l:=w.set j q') (d:=q') (by rw[List.getElem?_set_self (by omega)]),List.drop_set_of_lt (by omega),h]
  have hlen : ∀ W':List Nat,W'.length=y.length+1→(A++W'++C).length=u.length:=fun W' h=>by
   rw[←p2];simp [h,hW]
  have hl3:u.length=j+(y.length+1)+C.length:=by rw[←p2];simp [hA,hW];omega
  refine AKM.back [] (by (conv=>whnf);exact ⟨rfl,rfl,rfl⟩) (dm_iter (m:=m) (s:=s) (ul:=u.length) (C:=C) hA hW D2 hVD hvl.1 (by omega) hV0 (by omega) n2 g2 hl3 p4 (by omega) (fun W' q' z1 z2 z3 z4 => ?_))
  obtain ⟨t1,t2⟩:=dv_post (A:=A) (W:=W') (C:=C) (j:=j) hA g1
  refine AKM.back [] (by (conv=>whnf);exact ⟨rfl,rfl,rfl⟩) (ih j (A++W'++C) (w.set j q') (by omega) ⟨by omega,hlen W' z1,(D1.append z2).append D3,by simpa using p4,p5.set _ (by omega),by omega,?_⟩)
  rw[t1,t2,hset q' z4,z3]
  exact hTot2
end Go.Eng
