/-
  Systems of rational numbers, plain: sizes, products, responses.
-/
import Derived.Test.YtdgodemmncmlaaaGreatB7
import Derived.Test.YtdgodemmncmlaaaGreatB4
import Derived.Test.YtdgodemmncmlaaaGreatB5
set_option linter.unusedSimpArgs false
set_option linter.unusedVariables false
set_option linter.unnecessarySimpa false
namespace Go.Eng
def Bt (k:Nat) (x:Rat):Prop:=x.num.natAbs≤2^k∧x.den≤2^k
theorem Bt.le {k l:Nat} {x:Rat} (h:Bt k x) (hl:k≤l):Bt l x:=by
 have:=Nat.pow_le_pow_right (show 0<2 by omega) hl
 exact ⟨Nat.le_trans h.1 this,Nat.le_trans h.2 this⟩
theorem Bt.mk {k:Nat} {z:Int} {d:Nat} (hz:z.natAbs≤2^k) (hd:d≤2^k):Bt k (mkRat z d):=by
 by_cases h0:d=0
 ·subst h0
  rw[Rat.mkRat_zero]
  exact ⟨by simp,by simp;exact Nat.one_le_two_pow⟩
 ·obtain ⟨e1,e2,_⟩:=mk_parts (z:=z) h0
  unfold Bt
  rw[e1,e2]
  exact ⟨Nat.le_trans (Nat.div_le_self _ _) hz,Nat.le_trans (Nat.div_le_self _ _) hd⟩
theorem Bt.add {k l:Nat} {x y:Rat} (hx:Bt k x) (hy:Bt l y):Bt (k+l+1) (x+y):=by
 rw[Rat.add_def']
 refine Bt.mk ?_ ?_
 ·have h1:(x.num*y.den).natAbs≤2^k*2^l:=by rw[Int.natAbs_mul,Int.natAbs_natCast];exact Nat.mul_le_mul hx.1 hy.2
  have h2:(y.num*x.den).natAbs≤2^l*2^k:=by rw[Int.natAbs_mul,Int.natAbs_natCast];exact Nat.mul_le_mul hy.1 hx.2
  rw[Nat.mul_comm (2^l)]at h2
  rw[Nat.pow_succ,Nat.pow_add]
  have h3:=Int.natAbs_add_le (x.num*y.den) (y.num*x.den)
  omega
 ·rw[Nat.pow_succ,Nat.pow_add]
  have:=Nat.mul_le_mul hx.2 hy.2
  omega
theorem Bt.mul {k l:Nat} {x y:Rat} (hx:Bt k x) (hy:Bt l y):Bt (k+l) (x*y):=by
 rw[Rat.mul_def']
 refine Bt.mk ?_ ?_
 ·rw[Int.natAbs_mul,Nat.pow_add];exact Nat.mul_le_mul hx.1 hy.1
 ·rw[Nat.pow_add];exact Nat.mul_le_mul hx.2 hy.2
theorem Bt.zero (k:Nat):Bt k 0:=⟨by simp,by simp;exact Nat.one_le_two_pow⟩
theorem Bt.one (k:Nat):Bt k 1:=⟨by simp;exact Nat.one_le_two_pow,by simp;exact Nat.one_le_two_pow⟩
theorem Bt.dig {k n:Nat} {x:Rat} (h:Bt k x) (hn:k<32*n):Sm n (dg x.num.natAbs)∧Sm n (dg x.den):=by
 have e:2^k<4294967296^n:=by
  rw[show 4294967296=2^32 from rfl,←Nat.pow_mul]
  exact (Nat.pow_lt_pow_iff_right (by omega)).2 hn
 exact ⟨Sm.dg (Nat.lt_of_le_of_lt h.1 e),Sm.dg (Nat.lt_of_le_of_lt h.2 e)⟩
def Bs (k:Nat) (l:List Rat):Prop := ∀ x∈l,Bt k x
theorem Bs.at {k:Nat} {l:List Rat} (h:Bs k l) {i:Nat} {x:Rat} (hx:l[i]? = some x):Bt k x:=h x (List.mem_of_getElem? hx)
theorem Bs.le {k j:Nat} {l:List Rat} (h:Bs k l) (hj:k≤j):Bs j l:=fun x hx=>(h x hx).le hj
theorem Bs.take {k:Nat} {l:List Rat} (h:Bs k l) (n:Nat):Bs k (l.take n):=fun x hx=>h x (List.mem_of_mem_take hx)
def dotQ:List Rat→List Rat→Rat
 | x::xs,y::ys=>x*y+dotQ xs ys
 | _,_=>0
theorem dotQ_nil (l:List Rat):dotQ l []=0:=by cases l<;>rfl
theorem dotQ_snoc : ∀ {a b:List Rat} {x y:Rat},a.length=b.length→dotQ (a++[x]) (b++[y])=dotQ a b+x*y
 | [],[],x,y,_=>by show x*y+0=0+x*y;rw[Rat.add_zero,Rat.zero_add]
 | p::a,q::b,x,y,h=>by
  show p*q+dotQ (a++[x]) (b++[y])=p*q+dotQ a b+x*y
  rw[dotQ_snoc (by simpa using h),Rat.add_assoc]
theorem dotQ_take {a b:List Rat} {i:Nat} {x y:Rat} (hx:a[i]? = some x) (hy:b[i]? = some y):dotQ (a.take (i+1)) (b.take (i+1))=dotQ (a.take i) (b.take i)+x*y:=by
 have h1:=(List.getElem?_eq_some_iff.1 hx).1
 have h2:=(List.getElem?_eq_some_iff.1 hy).1
 rw[List.take_add_one,List.take_add_one,hx,hy,Option.toList_some,Option.toList_some,dotQ_snoc (by rw[List.length_take,List.length_take];omega)]
theorem dotQ_all {a b:List Rat} {n:Nat} (h:a.length=n):dotQ (a.take n) (b.take n)=dotQ a b:=by
 subst h
 rw[List.take_of_length_le (Nat.le_refl _)]
 induction a generalizing b with
 | nil=>cases b<;>rfl
 | cons x a ih=>cases b with
  | nil=>rfl
  | cons y b=>simp only[List.length_cons,List.take_succ_cons,dotQ,ih]
theorem Bs.dot {k l:Nat} : ∀ {a b:List Rat},Bs k a→Bs l b→Bt (a.length*(k+l+1)) (dotQ a b)
 | [],b,_,_=>by cases b<;>exact Bt.zero _
 | x::a,[],_,_=>Bt.zero _
 | x::a,y::b,ha,hb=>by
  have h1:=(ha x (by simp)).mul (hb y (by simp))
  have h2:=Bs.dot (a:=a) (b:=b) (fun z hz=>ha z (by simp [hz])) (fun z hz=>hb z (by simp [hz]))
  refine (h1.add h2).le ?_
  rw[List.length_cons,Nat.succ_mul]
  omega
def addL (a b:List Rat):List Rat:=List.zipWith (· + ·) a b
theorem dotQ_add : ∀ {a u v:List Rat},u.length=v.length→dotQ a (addL u v)=dotQ a u+dotQ a v
 | [],_,_,_=>by simp only[dotQ];rw[Rat.add_zero]
 | x::a,[],[],_=>by simp only[addL,List.zipWith_nil_left,dotQ];rw[Rat.add_zero]
 | x::a,p::u,q::v,h=>by
  show x*(p+q)+dotQ a (addL u v)=_
  rw[dotQ_add (by simpa using h)]
  simp only[dotQ]
  grind
structure SysQ where
 a:List (List Rat)
 b:List Rat
 c:List Rat
 d:Rat
structure SysQ.Ok (S:SysQ) (n k:Nat):Prop where
 la:S.a.length=n
 lr : ∀ r∈S.a,r.length=n
 lb:S.b.length=n
 lc:S.c.length=n
 ba : ∀ r∈S.a,Bs k r
 bb:Bs k S.b
 bc:Bs k S.c
 bd:Bt k S.d
def SysQ.out (S:SysQ) (now:List Rat) (x:Rat):Rat:=dotQ S.c now+S.d*x
def nextQ (now:List Rat) (x:Rat):List (List Rat)→List Rat→List Rat
 | r::a,b::bs=>(dotQ r now+b*x)::nextQ now x a bs
 | _,_=>[]
def SysQ.next (S:SysQ) (now:List Rat) (x:Rat):List Rat:=nextQ now x S.a S.b
def SysQ.state (S:SysQ):List Rat→List Rat→List Rat
 | now,[]=>now
 | now,x::xs=>S.state (S.next now x) xs
def SysQ.outs (S:SysQ):List Rat→List Rat→List Rat
 | _,[]=>[]
 | now,x::xs=>S.out now x::S.outs (S.next now x) xs
theorem nextQ_len (now:List Rat) (x:Rat) : ∀ (a:List (List Rat)) (b:List Rat),a.length=b.length→(nextQ now x a b).length=a.length
 | [],[],_=>rfl
 | r::a,y::b,h=>by simp only[nextQ,List.length_cons];rw[nextQ_len now x a b (by simpa using h)]
theorem nextQ_at (now:List Rat) (x:Rat) : ∀ (a:List (List Rat)) (b:List Rat) (i:Nat) (r:List Rat) (y:Rat),a[i]? = some r→b[i]? = some y→(nextQ now x a b)[i]? = some (dotQ r now+y*x)
 | [],_,i,r,y,h,_=>by simp at h
 | _::_,[],i,r,y,_,h=>by simp at h
 | r0::a,y0::b,0,r,y,h,h'=>by
  simp at h h'
  subst h;subst h';rfl
 | r0::a,y0::b,i+1,r,y,h,h'=>by
  simp only[nextQ,List.getElem?_cons_succ]at h h' ⊢
  exact nextQ_at now x a b i r y h h'
theorem state_snoc (S:SysQ) (x:Rat) : ∀ (xs now:List Rat),S.state now (xs++[x])=S.next (S.state now xs) x
 | [],_=>rfl
 | y::xs,now=>state_snoc S x xs (S.next now y)
theorem outs_snoc (S:SysQ) (x:Rat) : ∀ (xs now:List Rat),S.outs now (xs++[x])=S.outs now xs++[S.out (S.state now xs) x]
 | [],_=>rfl
 | y::xs,now=>by
  show S.out now y::S.outs (S.next now y) (xs++[x])=_
  rw[outs_snoc S x xs (S.next now y)];rfl
theorem outs_len (S:SysQ) : ∀ (xs now:List Rat),(S.outs now xs).length=xs.length
 | [],_=>rfl
 | y::xs,now=>by simp only[SysQ.outs,List.length_cons,outs_len S xs]
theorem SysQ.Ok.next_len {S:SysQ} {n k:Nat} (h:S.Ok n k) (now:List Rat) (x:Rat):(S.next now x).length=n:=by
 unfold SysQ.next;rw[nextQ_len _ _ _ _ (by rw[h.la,h.lb]),h.la]
theorem SysQ.Ok.state_len {S:SysQ} {n k:Nat} (h:S.Ok n k) : ∀ (xs now:List Rat),now.length=n→(S.state now xs).length=n
 | [],_,hn=>hn
 | x::xs,now,_=>h.state_len xs _ (h.next_len now x)
def stepK (n k s:Nat):Nat:=n*(k+s+1)+(k+k)+1
def respK (n k:Nat):Nat→Nat→Nat
 | s,0=>s
 | s,i+1=>respK n k (stepK n k s) i
theorem SysQ.Ok.next_bs {S:SysQ} {n k s:Nat} (h:S.Ok n k) {now:List Rat} {x:Rat} (hl:now.length=n) (hs:Bs s now) (hx:Bt k x):Bs (stepK n k s) (S.next now x)∧Bt (stepK n k s) (S.out now x):=by
 constructor
 ·have key : ∀ (a:List (List Rat)) (b:List Rat),(∀ r∈a,r.length=n∧Bs k r)→Bs k b→Bs (stepK n k s) (nextQ now x a b):=by
   intro a
   induction a with
   | nil=>intro b _ _ y hy;simp [nextQ]at hy
   | cons r a ih =>
    intro b ha hb
    cases b with
    | nil=>intro y hy;simp [nextQ]at hy
    | cons c b =>
     intro y hy
     simp only[nextQ,List.mem_cons]at hy
     rcases hy with rfl|hy
     ·obtain ⟨l1,l2⟩:=ha r (by simp)
      have h1:=l2.dot (b:=now) hs
      rw[l1]at h1
      refine (h1.add ((hb c (by simp)).mul hx)).le ?_
      unfold stepK;omega
     ·exact ih b (fun r hr=>ha r (by simp [hr])) (fun z hz=>hb z (by simp [hz])) y hy
  exact key S.a S.b (fun r hr=>⟨h.lr r hr,h.ba r hr⟩) h.bb
 ·have h1:=h.bc.dot (b:=now) hs
  rw[h.lc]at h1
  refine (h1.add (h.bd.mul hx)).le ?_
  unfold stepK;omega
theorem respK_succ (n k:Nat) : ∀ (i s:Nat),respK n k s (i+1)=stepK n k (respK n k s i)
 | 0,_=>rfl
 | i+1,s=>respK_succ n k i (stepK n k s)
theorem SysQ.Ok.state_bs {S:SysQ} {n k:Nat} (h:S.Ok n k) : ∀ (xs now:List Rat) (s:Nat),now.length=n→Bs s now→Bs k xs→Bs (respK n k s xs.length) (S.state now xs)
 | [],_,_,_,hs,_=>hs
 | x::xs,now,s,hl,hs,hx=>by
  exact h.state_bs xs _ _ (h.next_len now x) (h.next_bs hl hs (hx x (by simp))).1 (fun z hz=>hx z (by simp [hz]))
def impL:Nat→List Rat
 | 0=>[]
 | n+1=>1::List.replicate n 0
theorem impL_len (n:Nat):(impL n).length=n:=by cases n<;>simp [impL]
theorem impL_bs (k n:Nat):Bs k (impL n):=by
 intro x hx
 cases n with
 | zero=>simp [impL]at hx
 | succ n =>
  simp only[impL,List.mem_cons,List.mem_replicate]at hx
  rcases hx with rfl|⟨_,rfl⟩
  ·exact Bt.one k
  ·exact Bt.zero k
def unitL (n:Nat) (j:Int):List Rat:=(List.range n).map fun i:Nat=>if (i:Int)=j then 1 else 0
theorem unitL_len (n:Nat) (j:Int):(unitL n j).length=n:=by simp [unitL]
theorem unitL_neg (n:Nat):unitL n (-1)=List.replicate n 0:=by
 refine List.ext_getElem? fun i => ?_
 simp only[unitL,List.getElem?_map,List.getElem?_replicate,List.getElem?_range]
 by_cases h:i<n
 ·rw[List.getElem?_range h,if_pos h]
  simp
 ·rw[List.getElem?_eq_none (by simp;omega),if_neg h];rfl
end Go.Eng
namespace Go.Eng
def colQ (m:List (List Rat)) (j:Nat):List Rat:=m.map fun r=>r.getD j 0
def mulRow (r:List Rat) (m:List (List Rat)) (n:Nat):List Rat:=(List.range n).map fun j=>dotQ r (colQ m j)
def mulQ (a m:List (List Rat)) (n:Nat):List (List Rat):=a.map fun r=>mulRow r m n
def trQ (m:List (List Rat)):Nat→Rat
 | 0=>0
 | i+1=>trQ m i+(m.getD i []).getD i 0
def addD (m:List (List Rat)) (c:Rat) (i:Nat):List (List Rat):=(List.range m.length).map fun r=>if r<i then (m.getD r []).set r ((m.getD r []).getD r 0+c) else m.getD r []
def idQ (n:Nat):List (List Rat):=(List.range n).map fun i:Nat=>unitL n i
def cofOf (p:List (List Rat)) (n k:Nat):Rat:=trQ p n*Rat.divInt (-1) (k:Int)
def flM (a:List (List Rat)) (n:Nat):Nat→List (List Rat)
 | 0=>idQ n
 | k+1=>addD (mulQ a (flM a n k) n) (cofOf (mulQ a (flM a n k) n) n (k+1)) n
def cofQ (a:List (List Rat)) (n k:Nat):Rat:=cofOf (mulQ a (flM a n k) n) n (k+1)
def belowQ (a:List (List Rat)) (n k:Nat):List Rat:=1::(List.range k).map (cofQ a n)
def mvQ (m:List (List Rat)) (b:List Rat):List Rat:=m.map fun r=>dotQ r b
def aboveQ (S:SysQ) (n k:Nat):List Rat:=0::(List.range k).map fun i=>dotQ S.c (mvQ (flM S.a n i) S.b)
theorem mulRow_len (r:List Rat) (m:List (List Rat)) (n:Nat):(mulRow r m n).length=n:=by simp [mulRow]
theorem mulQ_len (a m:List (List Rat)) (n:Nat):(mulQ a m n).length=a.length:=by simp [mulQ]
theorem addD_len (m:List (List Rat)) (c:Rat) (i:Nat):(addD m c i).length=m.length:=by simp [addD]
theorem mvQ_len (m:List (List Rat)) (b:List Rat):(mvQ m b).length=m.length:=by simp [mvQ]
theorem belowQ_len (a:List (List Rat)) (n k:Nat):(belowQ a n k).length=k+1:=by simp [belowQ]
theorem aboveQ_len (S:SysQ) (n k:Nat):(aboveQ S n k).length=k+1:=by simp [aboveQ]
structure Sq (n:Nat) (m:List (List Rat)):Prop where
 l:m.length=n
 r : ∀ r∈m,r.length=n
theorem Sq.at {n:Nat} {m:List (List Rat)} (h:Sq n m) {i:Nat} {r:List Rat} (hr:m[i]? = some r):r.length=n:=h.r r (List.mem_of_getElem? hr)
theorem Sq.mul {n:Nat} {a:List (List Rat)} (h:a.length=n) (m:List (List Rat)):Sq n (mulQ a m n):=by
 refine ⟨by rw[mulQ_len,h],fun r hr => ?_⟩
 obtain ⟨x,_,rfl⟩:=List.mem_map.1 hr
 exact mulRow_len _ _ _
theorem addD_at {m:List (List Rat)} {c:Rat} {i r:Nat} {row:List Rat} (h:m[r]? = some row):(addD m c i)[r]? = some (if r<i then row.set r (row.getD r 0+c) else row):=by
 have h1:=(List.getElem?_eq_some_iff.1 h).1
 have e:m.getD r []=row:=by rw[List.getD_eq_getElem?_getD,h];rfl
 simp only[addD,List.getElem?_map,List.getElem?_range h1,Option.map_some,e]
theorem Sq.addD {n:Nat} {m:List (List Rat)} (h:Sq n m) (c:Rat) (i:Nat):Sq n (addD m c i):=by
 refine ⟨by rw[addD_len,h.l],fun r hr => ?_⟩
 obtain ⟨j,hj⟩:=List.getElem?_of_mem hr
 have h1:=(List.getElem?_eq_some_iff.1 hj).1
 rw[addD_len]at h1
 obtain ⟨row,hrow⟩ : ∃ row,m[j]? = some row:=⟨_,List.getElem?_eq_getElem h1⟩
 rw[addD_at hrow]at hj
 obtain rfl:=Option.some.inj hj
 have:=h.at hrow
 split
 ·rw[List.length_set];exact this
 ·exact this
theorem Sq.id (n:Nat):Sq n (idQ n):=by
 refine ⟨by simp [idQ],fun r hr => ?_⟩
 obtain ⟨i,_,rfl⟩:=List.mem_map.1 hr
 exact unitL_len _ _
theorem Sq.fl {n:Nat} {a:List (List Rat)} (h:a.length=n) : ∀ k,Sq n (flM a n k)
 | 0=>Sq.id n
 | k+1=>(Sq.mul h _).addD _ _
def Ms (k:Nat) (m:List (List Rat)):Prop := ∀ r∈m,Bs k r
theorem Ms.at {k:Nat} {m:List (List Rat)} (h:Ms k m) {i:Nat} {r:List Rat} (hr:m[i]? = some r):Bs k r:=h r (List.mem_of_getElem? hr)
theorem Ms.getD {k:Nat} {m:List (List Rat)} (h:Ms k m) (i j:Nat):Bt k ((m.getD i []).getD j 0):=by
 rw[List.getD_eq_getElem?_getD,List.getD_eq_getElem?_getD]
 cases e:m[i]? with
 | none=>exact Bt.zero k
 | some r =>
  simp only[Option.getD_some]
  cases e2:r[j]? with
  | none=>exact Bt.zero k
  | some x=>exact (h.at e).at e2
theorem Ms.le {k j:Nat} {m:List (List Rat)} (h:Ms k m) (hj:k≤j):Ms j m:=fun r hr=>(h r hr).le hj
theorem Ms.col {k:Nat} {m:List (List Rat)} (h:Ms k m) (j:Nat):Bs k (colQ m j):=by
 intro x hx
 obtain ⟨r,hr,rfl⟩:=List.mem_map.1 hx
 rw[List.getD_eq_getElem?_getD]
 cases e:r[j]? with
 | none=>exact Bt.zero k
 | some x=>exact (h r hr).at e
theorem Ms.mul {n k s:Nat} {a m:List (List Rat)} (ha:Ms k a) (hs:Sq n a) (hm:Ms s m):Ms (n*(k+s+1)) (mulQ a m n):=by
 intro r hr x hx
 obtain ⟨r,h1,rfl⟩:=List.mem_map.1 hr
 obtain ⟨j,_,rfl⟩:=List.mem_map.1 hx
 have:=(ha r h1).dot (hm.col j)
 rw[hs.r r h1]at this
 exact this
theorem Ms.tr {k:Nat} {m:List (List Rat)} (h:Ms k m) : ∀ i,Bt (i*(k+1)) (trQ m i)
 | 0=>Bt.zero _
 | i+1=>by
  refine ((Ms.tr h i).add (h.getD i i)).le ?_
  rw[Nat.succ_mul];omega
theorem Ms.addD {k j:Nat} {m:List (List Rat)} (h:Ms k m) {c:Rat} (hc:Bt j c) (i:Nat):Ms (k+j+1) (addD m c i):=by
 intro r hr
 obtain ⟨q,hq⟩:=List.getElem?_of_mem hr
 have h1:=(List.getElem?_eq_some_iff.1 hq).1
 rw[addD_len]at h1
 obtain ⟨row,hrow⟩ : ∃ row,m[q]? = some row:=⟨_,List.getElem?_eq_getElem h1⟩
 rw[addD_at hrow]at hq
 obtain rfl:=Option.some.inj hq
 have hb:=h.at hrow
 split
 ·intro x hx
  rcases List.mem_or_eq_of_mem_set hx with hx|rfl
  ·exact (hb x hx).le (by omega)
  ·refine Bt.add ?_ hc
   rw[List.getD_eq_getElem?_getD]
   cases e:row[q]? with
   | none=>exact Bt.zero k
   | some x=>exact hb.at e
 ·exact hb.le (by omega)
theorem Ms.id (n k:Nat):Ms k (idQ n):=by
 intro r hr x hx
 obtain ⟨i,_,rfl⟩:=List.mem_map.1 hr
 simp only[unitL,List.mem_map]at hx
 obtain ⟨a,_,rfl⟩:=hx
 split
 ·exact Bt.one k
 ·exact Bt.zero k
theorem bt_inv {k:Nat} (hk:k≤7):Bt 3 (Rat.divInt (-1) (k:Int)):=by
 rw[Rat.divInt_ofNat]
 refine Bt.mk ?_ ?_
 ·decide
 ·show k≤8;omega
def flK:Nat→Nat
 | 0=>0
 | k+1=>20*flK k+1700
theorem Ms.fl {n:Nat} {a:List (List Rat)} (hs:Sq n a) (ha:Ms 80 a) (hn:n≤4) : ∀ k,k≤4→Ms (flK k) (flM a n k)∧Ms (4*(flK k+81)) (mulQ a (flM a n k) n)∧Bt (16*(flK k+81)+10) (cofQ a n k):=by
 have key : ∀ k,k≤4→Ms (flK k) (flM a n k)→Ms (4*(flK k+81)) (mulQ a (flM a n k) n)∧Bt (16*(flK k+81)+10) (cofQ a n k):=fun k hk h=>by
  have h1:Ms (4*(flK k+81)) (mulQ a (flM a n k) n):=(Ms.mul ha hs h).le (Nat.mul_le_mul hn (by omega))
  refine ⟨h1,?_⟩
  refine ((h1.tr n).mul (bt_inv (k:=k+1) (by omega))).le ?_
  have:=Nat.mul_le_mul_right (4*(flK k+81)+1) hn
  generalize flK k=f at this ⊢
  generalize hX:4*(f+81)+1=X at this ⊢
  generalize n*X=Y at this ⊢
  omega
 intro k
 induction k with
 | zero=>exact fun hk=>⟨Ms.id n _,key 0 hk (Ms.id n _)⟩
 | succ k ih =>
  intro hk
  obtain ⟨h1,h2,h3⟩:=ih (by omega)
  have h4:Ms (flK (k+1)) (flM a n (k+1)):=(h2.addD h3 n).le (by show _≤20*flK k+1700;omega)
  exact ⟨h4,key (k+1) hk h4⟩
end Go.Eng

namespace Go.Eng
theorem dotQ_comm : ∀ a b:List Rat,dotQ a b=dotQ b a
 | [],[]=>rfl
 | [],_::_=>rfl
 | _::_,[]=>rfl
 | x::a,y::b=>by simp only[dotQ,dotQ_comm a b,Rat.mul_comm]
theorem dotQ_zeros : ∀ (v:List Rat) (n:Nat),dotQ (List.replicate n 0) v=0
 | [],n=>dotQ_nil _
 | y::v,0=>rfl
 | y::v,n+1=>by rw[List.replicate_succ];simp only[dotQ,dotQ_zeros v n];grind
theorem dotQ_zerosR (v:List Rat) (n:Nat):dotQ v (List.replicate n 0)=0:=by rw[dotQ_comm,dotQ_zeros]
theorem dotQ_sml (x:Rat) : ∀ a b:List Rat,dotQ (a.map (x * ·)) b=x*dotQ a b
 | [],_=>by simp [dotQ]
 | _::_,[]=>by simp [dotQ]
 | p::a,q::b=>by simp only[List.map_cons,dotQ,dotQ_sml x a b];grind
theorem mulRow_nil (u:List Rat) (n:Nat):mulRow u [] n=List.replicate n 0:=by
 refine List.ext_getElem? fun j => ?_
 simp only[mulRow,colQ,List.map_nil,dotQ_nil,List.getElem?_map,List.getElem?_replicate]
 by_cases h:j<n
 ·rw[List.getElem?_range h,if_pos h];rfl
 ·rw[List.getElem?_eq_none (by simp;omega),if_neg h];rfl
theorem mulRow_nil' (m:List (List Rat)) (n:Nat):mulRow [] m n=List.replicate n 0:=by
 refine List.ext_getElem? fun j => ?_
 simp only[mulRow,dotQ,List.getElem?_map,List.getElem?_replicate]
 by_cases h:j<n
 ·rw[List.getElem?_range h,if_pos h];rfl
 ·rw[List.getElem?_eq_none (by simp;omega),if_neg h];rfl
theorem mulRow_cons (x:Rat) (u r:List Rat) (m:List (List Rat)) (n:Nat) (hr:r.length=n):mulRow (x::u) (r::m) n=addL (r.map (x * ·)) (mulRow u m n):=by
 refine List.ext_getElem? fun j => ?_
 simp only[mulRow,addL,List.getElem?_map,List.getElem?_zipWith]
 by_cases h:j<n
 ·rw[List.getElem?_range h]
  obtain ⟨y,hy⟩ : ∃ y,r[j]? = some y:=⟨_,List.getElem?_eq_getElem (by omega)⟩
  rw[hy]
  simp only[Option.map_some,colQ,List.map_cons,dotQ,List.getD_eq_getElem?_getD,hy,Option.getD_some]
 ·rw[List.getElem?_eq_none (by simp;omega),List.getElem?_eq_none (l:=r) (by omega)]
  rfl
theorem dotQ_assoc {n:Nat} {v:List Rat} : ∀ (m:List (List Rat)) (u:List Rat),(∀ r∈m,r.length=n)→dotQ (mulRow u m n) v=dotQ u (mvQ m v)
 | [],u,_=>by rw[mulRow_nil,dotQ_zeros,mvQ,List.map_nil,dotQ_nil]
 | r::m,[],_=>by rw[mulRow_nil',dotQ_zeros];rfl
 | r::m,x::u,h=>by
  have hr:=h r (by simp)
  rw[mulRow_cons x u r m n hr,dotQ_comm,dotQ_add (by rw[List.length_map,mulRow_len];exact hr),dotQ_comm v,dotQ_comm v,dotQ_sml,dotQ_assoc m u fun r hr=>h r (by simp [hr])]
  rfl
theorem mvQ_mul {n:Nat} (a m:List (List Rat)) (v:List Rat) (h : ∀ r∈m,r.length=n):mvQ (mulQ a m n) v=mvQ a (mvQ m v):=by
 simp only[mvQ,mulQ,List.map_map]
 exact List.map_congr_left fun r _=>dotQ_assoc m r h
theorem dotQ_set (c:Rat) : ∀ (row b:List Rat) (i:Nat),row.length=b.length→i<row.length→dotQ (row.set i (row.getD i 0+c)) b=dotQ row b+c*b.getD i 0
 | [],_,_,_,h=>by simp at h
 | x::row,[],_,h,_=>by simp at h
 | x::row,y::b,0,_,_=>by simp [dotQ];grind
 | x::row,y::b,i+1,h,hi=>by
  simp only[List.set_cons_succ,List.getD_cons_succ,dotQ]
  rw[dotQ_set c row b i (by simpa using h) (by simpa using hi)]
  grind
theorem mvQ_addD {n:Nat} {m:List (List Rat)} (hs:Sq n m) (c:Rat) (b:List Rat) (hb:b.length=n):mvQ (addD m c n) b=addL (mvQ m b) (b.map (c * ·)):=by
 refine List.ext_getElem? fun r => ?_
 simp only[mvQ,addL,List.getElem?_map,List.getElem?_zipWith]
 cases e:m[r]? with
 | none =>
  have h1:=List.getElem?_eq_none_iff.1 e
  rw[List.getElem?_eq_none (by rw[addD_len];exact h1)];rfl
 | some row =>
  have h1:=(List.getElem?_eq_some_iff.1 e).1
  have hl:=hs.at e
  have hm:=hs.l
  obtain ⟨y,hy⟩ : ∃ y,b[r]? = some y:=⟨_,List.getElem?_eq_getElem (by omega)⟩
  rw[addD_at e,if_pos (by omega),hy]
  simp only[Option.map_some]
  rw[dotQ_set c row b r (by omega) (by omega),List.getD_eq_getElem?_getD,hy]
  rfl
theorem mvQ_id {n:Nat} {b:List Rat} (hb:b.length=n):mvQ (idQ n) b=b:=by
 have unit : ∀ (k n i:Nat) (b:List Rat),b.length=n→dotQ ((List.range' k n).map fun a:Nat=>if (a:Int)=((k+i:Nat):Int) then 1 else 0) b=b.getD i 0:=by
  intro k n
  induction n generalizing k with
  | zero=>intro i b hb;obtain rfl:=List.eq_nil_of_length_eq_zero hb;simp [dotQ]
  | succ n ih =>
   intro i b hb
   cases b with
   | nil=>simp at hb
   | cons y b =>
    rw[List.range'_succ,List.map_cons,dotQ]
    cases i with
    | zero =>
     have hz:((List.range' (k+1) n).map fun a:Nat=>if (a:Int)=((k+0:Nat):Int) then (1:Rat) else 0)=List.replicate n 0:=by
      rw[List.eq_replicate_iff]
      refine ⟨by simp,fun x hx => ?_⟩
      obtain ⟨a,ha,rfl⟩:=List.mem_map.1 hx
      rw[if_neg]
      have:=(List.mem_range'_1.1 ha).1
      omega
     rw[hz,dotQ_zeros,if_pos (by simp)]
     simp [Rat.add_zero]
    | succ i =>
     have:=ih (k+1) i b (by simpa using hb)
     rw[show k+1+i=k+(i+1) by omega]at this
     rw[this,if_neg (by omega),List.getD_cons_succ]
     grind
 refine List.ext_getElem? fun r => ?_
 simp only[mvQ,idQ,List.getElem?_map]
 by_cases h:r<n
 ·rw[List.getElem?_range h]
  have:=unit 0 n r b hb
  rw[Nat.zero_add]at this
  simp only[Option.map_some,unitL,List.range_eq_range']at this ⊢
  rw[this,List.getD_eq_getElem?_getD,List.getElem?_eq_getElem (by omega)]
  rfl
 ·rw[List.getElem?_eq_none (by simp;omega),List.getElem?_eq_none (by omega)]
  rfl
def wQ (S:SysQ):Nat→List Rat
 | 0=>S.b
 | j+1=>mvQ S.a (wQ S j)
def conv (A h:Nat→Rat) (K:Nat):Nat→Rat
 | 0=>0
 | a+1=>conv A h K a+A a*h (K-a)
theorem conv_congr {A A' h h':Nat→Rat} {K K':Nat} : ∀ m,(∀ a,a<m→A a=A' a)→(∀ a,a<m→h (K-a)=h' (K'-a))→conv A h K m=conv A' h' K' m
 | 0,_,_=>rfl
 | m+1,h1,h2=>by rw[conv,conv,conv_congr m (fun a ha=>h1 a (by omega)) (fun a ha=>h2 a (by omega)),h1 m (by omega),h2 m (by omega)]
theorem conv_more {A h:Nat→Rat} {K m:Nat} (hz : ∀ a,m≤a→A a=0) : ∀ j,conv A h K (m+j)=conv A h K m
 | 0=>rfl
 | j+1=>by rw[←Nat.add_assoc,conv,conv_more hz j,hz (m+j) (by omega),Rat.zero_mul,Rat.add_zero]
def cfQ (a:List (List Rat)) (n:Nat):Nat→Rat
 | 0=>1
 | k+1=>cofQ a n k
theorem fl_conv {n:Nat} {S:SysQ} (hs:Sq n S.a) (hb:S.b.length=n) : ∀ (k:Nat) (u:List Rat),u.length=n→dotQ u (mvQ (flM S.a n k) S.b)=conv (cfQ S.a n) (fun j=>dotQ u (wQ S j)) k (k+1)
 | 0,u,_=>by
  rw[flM,mvQ_id hb]
  simp only[conv,cfQ,wQ,Nat.sub_zero]
  grind
 | k+1,u,hu=>by
  have hfl:flM S.a n (k+1)=addD (mulQ S.a (flM S.a n k) n) (cofQ S.a n k) n:=rfl
  have hM:=Sq.fl (a:=S.a) hs.l k
  rw[hfl,mvQ_addD (Sq.mul hs.l _) _ _ hb,dotQ_add (by rw[mvQ_len,mulQ_len,List.length_map,hs.l,hb]),mvQ_mul _ _ _ hM.r]
  have e1:dotQ u (mvQ S.a (mvQ (flM S.a n k) S.b))=dotQ (mulRow u S.a n) (mvQ (flM S.a n k) S.b):=(dotQ_assoc S.a u hs.r).symm
  rw[e1,fl_conv hs hb k (mulRow u S.a n) (mulRow_len _ _ _),dotQ_comm u,dotQ_sml]
  have e2:conv (cfQ S.a n) (fun j=>dotQ u (wQ S j)) (k+1) (k+1+1)=conv (cfQ S.a n) (fun j=>dotQ u (wQ S j)) (k+1) (k+1)+cofQ S.a n k*dotQ S.b u:=by
   rw[conv,Nat.sub_self,dotQ_comm S.b];rfl
  rw[e2]
  congr 1
  refine conv_congr (k+1) (fun a _=>rfl) fun a ha => ?_
  show dotQ (mulRow u S.a n) (wQ S (k-a))=dotQ u (wQ S (k+1-a))
  rw[dotQ_assoc S.a u hs.r,show k+1-a=(k-a)+1 by omega]
  rfl
end Go.Eng

namespace Go.Eng
theorem cof_inv (k:Nat) (hk:k≠0) (t:Rat):((k:Nat):Rat)*(t*Rat.divInt (-1) (k:Int)) = -t:=by
 have h:Rat.divInt (-1) (k:Int)=(-1)/((k:Nat):Rat):=by
  rw[Rat.divInt_ofNat,Rat.mkRat_eq_div];rfl
 have h0:((k:Nat):Rat)≠0:=by exact_mod_cast hk
 rw[h]
 grind
theorem len1 {α:Type} {l:List α} (h:l.length=1) : ∃ a,l=[a]:=by
 rcases l with _|⟨a,_|⟨b,l⟩⟩<;>simp at h
 exact ⟨a,rfl⟩
theorem len2 {α:Type} {l:List α} (h:l.length=2) : ∃ a b,l=[a,b]:=by
 obtain ⟨a,r,rfl⟩ : ∃ a r,l=a::r:=by
  cases l with
  | nil=>simp at h
  | cons a r=>exact ⟨a,r,rfl⟩
 obtain ⟨b,rfl⟩:=len1 (l:=r) (by simpa using h)
 exact ⟨_,_,rfl⟩
theorem len3 {α:Type} {l:List α} (h:l.length=3) : ∃ a b c,l=[a,b,c]:=by
 obtain ⟨a,r,rfl⟩ : ∃ a r,l=a::r:=by
  cases l with
  | nil=>simp at h
  | cons a r=>exact ⟨a,r,rfl⟩
 obtain ⟨b,c,rfl⟩:=len2 (l:=r) (by simpa using h)
 exact ⟨_,_,_,rfl⟩
theorem len4 {α:Type} {l:List α} (h:l.length=4) : ∃ a b c d,l=[a,b,c,d]:=by
 obtain ⟨a,r,rfl⟩ : ∃ a r,l=a::r:=by
  cases l with
  | nil=>simp at h
  | cons a r=>exact ⟨a,r,rfl⟩
 obtain ⟨b,c,d,rfl⟩:=len3 (l:=r) (by simpa using h)
 exact ⟨_,_,_,_,rfl⟩
theorem step1 (x00 m00 c:Rat):addD (mulQ [[x00]] [[m00]] 1) c 1=[[(x00*m00+0)+c]]:=rfl
theorem tr1 (x00 m00:Rat):trQ (mulQ [[x00]] [[m00]] 1) 1=0+(x00*m00+0):=rfl
theorem id1:idQ 1=[[1]]:=rfl
set_option maxHeartbeats 40000000 in
theorem chz1 (x00:Rat):flM [[x00]] 1 1=List.replicate 1 (List.replicate 1 0):=by
 have h0:flM [[x00]] 1 0=idQ 1:=rfl
 rw[id1]at h0
 have h1:flM [[x00]] 1 1=addD (mulQ [[x00]] (flM [[x00]] 1 0) 1) (cofQ [[x00]] 1 0) 1:=rfl
 have k0:=cof_inv 1 (by omega) (trQ (mulQ [[x00]] (flM [[x00]] 1 0) 1) 1)
 rw[show trQ (mulQ [[x00]] (flM [[x00]] 1 0) 1) 1*Rat.divInt (-1) ((1:Nat):Int)=cofQ [[x00]] 1 0 from rfl,h0,tr1]at k0
 generalize cofQ [[x00]] 1 0=c0 at *
 rw[h0,step1]at h1
 clear h0
 rw[h1]
 clear h1
 simp only[List.replicate,List.cons.injEq,and_true]
 grind
theorem step2 (x00 x01 x10 x11 m00 m01 m10 m11 c:Rat):addD (mulQ [[x00,x01],[x10,x11]] [[m00,m01],[m10,m11]] 2) c 2=[[(x00*m00+(x01*m10+0))+c,x00*m01+(x01*m11+0)],[x10*m00+(x11*m10+0),(x10*m01+(x11*m11+0))+c]]:=rfl
theorem tr2 (x00 x01 x10 x11 m00 m01 m10 m11:Rat):trQ (mulQ [[x00,x01],[x10,x11]] [[m00,m01],[m10,m11]] 2) 2=(0+(x00*m00+(x01*m10+0)))+(x10*m01+(x11*m11+0)):=rfl
theorem id2:idQ 2=[[1,0],[0,1]]:=rfl
set_option maxHeartbeats 40000000 in
theorem chz2 (x00 x01 x10 x11:Rat):flM [[x00,x01],[x10,x11]] 2 2=List.replicate 2 (List.replicate 2 0):=by
 have h0:flM [[x00,x01],[x10,x11]] 2 0=idQ 2:=rfl
 rw[id2]at h0
 have h1:flM [[x00,x01],[x10,x11]] 2 1=addD (mulQ [[x00,x01],[x10,x11]] (flM [[x00,x01],[x10,x11]] 2 0) 2) (cofQ [[x00,x01],[x10,x11]] 2 0) 2:=rfl
 have k0:=cof_inv 1 (by omega) (trQ (mulQ [[x00,x01],[x10,x11]] (flM [[x00,x01],[x10,x11]] 2 0) 2) 2)
 rw[show trQ (mulQ [[x00,x01],[x10,x11]] (flM [[x00,x01],[x10,x11]] 2 0) 2) 2*Rat.divInt (-1) ((1:Nat):Int)=cofQ [[x00,x01],[x10,x11]] 2 0 from rfl,h0,tr2]at k0
 generalize cofQ [[x00,x01],[x10,x11]] 2 0=c0 at *
 rw[h0,step2]at h1
 have h2:flM [[x00,x01],[x10,x11]] 2 2=addD (mulQ [[x00,x01],[x10,x11]] (flM [[x00,x01],[x10,x11]] 2 1) 2) (cofQ [[x00,x01],[x10,x11]] 2 1) 2:=rfl
 have k1:=cof_inv 2 (by omega) (trQ (mulQ [[x00,x01],[x10,x11]] (flM [[x00,x01],[x10,x11]] 2 1) 2) 2)
 rw[show trQ (mulQ [[x00,x01],[x10,x11]] (flM [[x00,x01],[x10,x11]] 2 1) 2) 2*Rat.divInt (-1) ((2:Nat):Int)=cofQ [[x00,x01],[x10,x11]] 2 1 from rfl,h1,tr2]at k1
 generalize cofQ [[x00,x01],[x10,x11]] 2 1=c1 at *
 rw[h1,step2]at h2
 clear h0 h1
 rw[h2]
 clear h2
 simp only[List.replicate,List.cons.injEq,and_true]
 refine ⟨⟨?_,?_⟩,⟨?_,?_⟩⟩<;>grind
theorem step3 (x00 x01 x02 x10 x11 x12 x20 x21 x22 m00 m01 m02 m10 m11 m12 m20 m21 m22 c:Rat):addD (mulQ [[x00,x01,x02],[x10,x11,x12],[x20,x21,x22]] [[m00,m01,m02],[m10,m11,m12],[m20,m21,m22]] 3) c 3=[[(x00*m00+(x01*m10+(x02*m20+0)))+c,x00*m01+(x01*m11+(x02*m21+0)),x00*m02+(x01*m12+(x02*m22+0))],[x10*m00+(x11*m10+(x12*m20+0)),(x10*m01+(x11*m11+(x12*m21+0)))+c,x10*m02+(x11*m12+(x12*m22+0))],[x20*m00+(x21*m10+(x22*m20+0)),x20*m01+(x21*m11+(x22*m21+0)),(x20*m02+(x21*m12+(x22*m22+0)))+c]]:=rfl
theorem tr3 (x00 x01 x02 x10 x11 x12 x20 x21 x22 m00 m01 m02 m10 m11 m12 m20 m21 m22:Rat):trQ (mulQ [[x00,x01,x02],[x10,x11,x12],[x20,x21,x22]] [[m00,m01,m02],[m10,m11,m12],[m20,m21,m22]] 3) 3=((0+(x00*m00+(x01*m10+(x02*m20+0))))+(x10*m01+(x11*m11+(x12*m21+0))))+(x20*m02+(x21*m12+(x22*m22+0))):=rfl
theorem id3:idQ 3=[[1,0,0],[0,1,0],[0,0,1]]:=rfl
set_option maxHeartbeats 40000000 in
theorem chz3 (x00 x01 x02 x10 x11 x12 x20 x21 x22:Rat):flM [[x00,x01,x02],[x10,x11,x12],[x20,x21,x22]] 3 3=List.replicate 3 (List.replicate 3 0):=by
 have h0:flM [[x00,x01,x02],[x10,x11,x12],[x20,x21,x22]] 3 0=idQ 3:=rfl
 rw[id3]at h0
 have h1:flM [[x00,x01,x02],[x10,x11,x12],[x20,x21,x22]] 3 1=addD (mulQ [[x00,x01,x02],[x10,x11,x12],[x20,x21,x22]] (flM [[x00,x01,x02],[x10,x11,x12],[x20,x21,x22]] 3 0) 3) (cofQ [[x00,x01,x02],[x10,x11,x12],[x20,x21,x22]] 3 0) 3:=rfl
 have k0:=cof_inv 1 (by omega) (trQ (mulQ [[x00,x01,x02],[x10,x11,x12],[x20,x21,x22]] (flM [[x00,x01,x02],[x10,x11,x12],[x20,x21,x22]] 3 0) 3) 3)
 rw[show trQ (mulQ [[x00,x01,x02],[x10,x11,x12],[x20,x21,x22]] (flM [[x00,x01,x02],[x10,x11,x12],[x20,x21,x22]] 3 0) 3) 3*Rat.divInt (-1) ((1:Nat):Int)=cofQ [[x00,x01,x02],[x10,x11,x12],[x20,x21,x22]] 3 0 from rfl,h0,tr3]at k0
 generalize cofQ [[x00,x01,x02],[x10,x11,x12],[x20,x21,x22]] 3 0=c0 at *
 rw[h0,step3]at h1
 have h2:flM [[x00,x01,x02],[x10,x11,x12],[x20,x21,x22]] 3 2=addD (mulQ [[x00,x01,x02],[x10,x11,x12],[x20,x21,x22]] (flM [[x00,x01,x02],[x10,x11,x12],[x20,x21,x22]] 3 1) 3) (cofQ [[x00,x01,x02],[x10,x11,x12],[x20,x21,x22]] 3 1) 3:=rfl
 have k1:=cof_inv 2 (by omega) (trQ (mulQ [[x00,x01,x02],[x10,x11,x12],[x20,x21,x22]] (flM [[x00,x01,x02],[x10,x11,x12],[x20,x21,x22]] 3 1) 3) 3)
 rw[show trQ (mulQ [[x00,x01,x02],[x10,x11,x12],[x20,x21,x22]] (flM [[x00,x01,x02],[x10,x11,x12],[x20,x21,x22]] 3 1) 3) 3*Rat.divInt (-1) ((2:Nat):Int)=cofQ [[x00,x01,x02],[x10,x11,x12],[x20,x21,x22]] 3 1 from rfl,h1,tr3]at k1
 generalize cofQ [[x00,x01,x02],[x10,x11,x12],[x20,x21,x22]] 3 1=c1 at *
 rw[h1,step3]at h2
 have h3:flM [[x00,x01,x02],[x10,x11,x12],[x20,x21,x22]] 3 3=addD (mulQ [[x00,x01,x02],[x10,x11,x12],[x20,x21,x22]] (flM [[x00,x01,x02],[x10,x11,x12],[x20,x21,x22]] 3 2) 3) (cofQ [[x00,x01,x02],[x10,x11,x12],[x20,x21,x22]] 3 2) 3:=rfl
 have k2:=cof_inv 3 (by omega) (trQ (mulQ [[x00,x01,x02],[x10,x11,x12],[x20,x21,x22]] (flM [[x00,x01,x02],[x10,x11,x12],[x20,x21,x22]] 3 2) 3) 3)
 rw[show trQ (mulQ [[x00,x01,x02],[x10,x11,x12],[x20,x21,x22]] (flM [[x00,x01,x02],[x10,x11,x12],[x20,x21,x22]] 3 2) 3) 3*Rat.divInt (-1) ((3:Nat):Int)=cofQ [[x00,x01,x02],[x10,x11,x12],[x20,x21,x22]] 3 2 from rfl,h2,tr3]at k2
 generalize cofQ [[x00,x01,x02],[x10,x11,x12],[x20,x21,x22]] 3 2=c2 at *
 rw[h2,step3]at h3
 clear h0 h1 h2
 rw[h3]
 clear h3
 simp only[List.replicate,List.cons.injEq,and_true]
 refine ⟨⟨?_,?_,?_⟩,⟨?_,?_,?_⟩,⟨?_,?_,?_⟩⟩<;>grind
theorem step4 (x00 x01 x02 x03 x10 x11 x12 x13 x20 x21 x22 x23 x30 x31 x32 x33 m00 m01 m02 m03 m10 m11 m12 m13 m20 m21 m22 m23 m30 m31 m32 m33 c:Rat):addD (mulQ [[x00,x01,x02,x03],[x10,x11,x12,x13],[x20,x21,x22,x23],[x30,x31,x32,x33]] [[m00,m01,m02,m03],[m10,m11,m12,m13],[m20,m21,m22,m23],[m30,m31,m32,m33]] 4) c 4=[[(x00*m00+(x01*m10+(x02*m20+(x03*m30+0))))+c,x00*m01+(x01*m11+(x02*m21+(x03*m31+0))),x00*m02+(x01*m12+(x02*m22+(x03*m32+0))),x00*m03+(x01*m13+(x02*m23+(x03*m33+0)))],[x10*m00+(x11*m10+(x12*m20+(x13*m30+0))),(x10*m01+(x11*m11+(x12*m21+(x13*m31+0))))+c,x10*m02+(x11*m12+(x12*m22+(x13*m32+0))),x10*m03+(x11*m13+(x12*m23+(x13*m33+0)))],[x20*m00+(x21*m10+(x22*m20+(x23*m30+0))),x20*m01+(x21*m11+(x22*m21+(x23*m31+0))),(x20*m02+(x21*m12+(x22*m22+(x23*m32+0))))+c,x20*m03+(x21*m13+(x22*m23+(x23*m33+0)))],[x30*m00+(x31*m10+(x32*m20+(x33*m30+0))),x30*m01+(x31*m11+(x32*m21+(x33*m31+0))),x30*m02+(x31*m12+(x32*m22+(x33*m32+0))),(x30*m03+(x31*m13+(x32*m23+(x33*m33+0))))+c]]:=rfl
theorem tr4 (x00 x01 x02 x03 x10 x11 x12 x13 x20 x21 x22 x23 x30 x31 x32 x33 m00 m01 m02 m03 m10 m11 m12 m13 m20 m21 m22 m23 m30 m31 m32 m33:Rat):trQ (mulQ [[x00,x01,x02,x03],[x10,x11,x12,x13],[x20,x21,x22,x23],[x30,x31,x32,x33]] [[m00,m01,m02,m03],[m10,m11,m12,m13],[m20,m21,m22,m23],[m30,m31,m32,m33]] 4) 4=(((0+(x00*m00+(x01*m10+(x02*m20+(x03*m30+0)))))+(x10*m01+(x11*m11+(x12*m21+(x13*m31+0)))))+(x20*m02+(x21*m12+(x22*m22+(x23*m32+0)))))+(x30*m03+(x31*m13+(x32*m23+(x33*m33+0)))):=rfl
theorem id4:idQ 4=[[1,0,0,0],[0,1,0,0],[0,0,1,0],[0,0,0,1]]:=rfl
set_option maxHeartbeats 40000000 in
theorem chz4 (x00 x01 x02 x03 x10 x11 x12 x13 x20 x21 x22 x23 x30 x31 x32 x33:Rat):flM [[x00,x01,x02,x03],[x10,x11,x12,x13],[x20,x21,x22,x23],[x30,x31,x32,x33]] 4 4=List.replicate 4 (List.replicate 4 0):=by
 have h0:flM [[x00,x01,x02,x03],[x10,x11,x12,x13],[x20,x21,x22,x23],[x30,x31,x32,x33]] 4 0=idQ 4:=rfl
 rw[id4]at h0
 have h1:flM [[x00,x01,x02,x03],[x10,x11,x12,x13],[x20,x21,x22,x23],[x30,x31,x32,x33]] 4 1=addD (mulQ [[x00,x01,x02,x03],[x10,x11,x12,x13],[x20,x21,x22,x23],[x30,x31,x32,x33]] (flM [[x00,x01,x02,x03],[x10,x11,x12,x13],[x20,x21,x22,x23],[x30,x31,x32,x33]] 4 0) 4) (cofQ [[x00,x01,x02,x03],[x10,x11,x12,x13],[x20,x21,x22,x23],[x30,x31,x32,x33]] 4 0) 4:=rfl
 have k0:=cof_inv 1 (by omega) (trQ (mulQ [[x00,x01,x02,x03],[x10,x11,x12,x13],[x20,x21,x22,x23],[x30,x31,x32,x33]] (flM [[x00,x01,x02,x03],[x10,x11,x12,x13],[x20,x21,x22,x23],[x30,x31,x32,x33]] 4 0) 4) 4)
 rw[show trQ (mulQ [[x00,x01,x02,x03],[x10,x11,x12,x13],[x20,x21,x22,x23],[x30,x31,x32,x33]] (flM [[x00,x01,x02,x03],[x10,x11,x12,x13],[x20,x21,x22,x23],[x30,x31,x32,x33]] 4 0) 4) 4*Rat.divInt (-1) ((1:Nat):Int)=cofQ [[x00,x01,x02,x03],[x10,x11,x12,x13],[x20,x21,x22,x23],[x30,x31,x32,x33]] 4 0 from rfl,h0,tr4]at k0
 generalize cofQ [[x00,x01,x02,x03],[x10,x11,x12,x13],[x20,x21,x22,x23],[x30,x31,x32,x33]] 4 0=c0 at *
 rw[h0,step4]at h1
 have h2:flM [[x00,x01,x02,x03],[x10,x11,x12,x13],[x20,x21,x22,x23],[x30,x31,x32,x33]] 4 2=addD (mulQ [[x00,x01,x02,x03],[x10,x11,x12,x13],[x20,x21,x22,x23],[x30,x31,x32,x33]] (flM [[x00,x01,x02,x03],[x10,x11,x12,x13],[x20,x21,x22,x23],[x30,x31,x32,x33]] 4 1) 4) (cofQ [[x00,x01,x02,x03],[x10,x11,x12,x13],[x20,x21,x22,x23],[x30,x31,x32,x33]] 4 1) 4:=rfl
 have k1:=cof_inv 2 (by omega) (trQ (mulQ [[x00,x01,x02,x03],[x10,x11,x12,x13],[x20,x21,x22,x23],[x30,x31,x32,x33]] (flM [[x00,x01,x02,x03],[x10,x11,x12,x13],[x20,x21,x22,x23],[x30,x31,x32,x33]] 4 1) 4) 4)
 rw[show trQ (mulQ [[x00,x01,x02,x03],[x10,x11,x12,x13],[x20,x21,x22,x23],[x30,x31,x32,x33]] (flM [[x00,x01,x02,x03],[x10,x11,x12,x13],[x20,x21,x22,x23],[x30,x31,x32,x33]] 4 1) 4) 4*Rat.divInt (-1) ((2:Nat):Int)=cofQ [[x00,x01,x02,x03],[x10,x11,x12,x13],[x20,x21,x22,x23],[x30,x31,x32,x33]] 4 1 from rfl,h1,tr4]at k1
 generalize cofQ [[x00,x01,x02,x03],[x10,x11,x12,x13],[x20,x21,x22,x23],[x30,x31,x32,x33]] 4 1=c1 at *
 rw[h1,step4]at h2
 have h3:flM [[x00,x01,x02,x03],[x10,x11,x12,x13],[x20,x21,x22,x23],[x30,x31,x32,x33]] 4 3=addD (mulQ [[x00,x01,x02,x03],[x10,x11,x12,x13],[x20,x21,x22,x23],[x30,x31,x32,x33]] (flM [[x00,x01,x02,x03],[x10,x11,x12,x13],[x20,x21,x22,x23],[x30,x31,x32,x33]] 4 2) 4) (cofQ [[x00,x01,x02,x03],[x10,x11,x12,x13],[x20,x21,x22,x23],[x30,x31,x32,x33]] 4 2) 4:=rfl
 have k2:=cof_inv 3 (by omega) (trQ (mulQ [[x00,x01,x02,x03],[x10,x11,x12,x13],[x20,x21,x22,x23],[x30,x31,x32,x33]] (flM [[x00,x01,x02,x03],[x10,x11,x12,x13],[x20,x21,x22,x23],[x30,x31,x32,x33]] 4 2) 4) 4)
 rw[show trQ (mulQ [[x00,x01,x02,x03],[x10,x11,x12,x13],[x20,x21,x22,x23],[x30,x31,x32,x33]] (flM [[x00,x01,x02,x03],[x10,x11,x12,x13],[x20,x21,x22,x23],[x30,x31,x32,x33]] 4 2) 4) 4*Rat.divInt (-1) ((3:Nat):Int)=cofQ [[x00,x01,x02,x03],[x10,x11,x12,x13],[x20,x21,x22,x23],[x30,x31,x32,x33]] 4 2 from rfl,h2,tr4]at k2
 generalize cofQ [[x00,x01,x02,x03],[x10,x11,x12,x13],[x20,x21,x22,x23],[x30,x31,x32,x33]] 4 2=c2 at *
 rw[h2,step4]at h3
 have h4:flM [[x00,x01,x02,x03],[x10,x11,x12,x13],[x20,x21,x22,x23],[x30,x31,x32,x33]] 4 4=addD (mulQ [[x00,x01,x02,x03],[x10,x11,x12,x13],[x20,x21,x22,x23],[x30,x31,x32,x33]] (flM [[x00,x01,x02,x03],[x10,x11,x12,x13],[x20,x21,x22,x23],[x30,x31,x32,x33]] 4 3) 4) (cofQ [[x00,x01,x02,x03],[x10,x11,x12,x13],[x20,x21,x22,x23],[x30,x31,x32,x33]] 4 3) 4:=rfl
 have k3:=cof_inv 4 (by omega) (trQ (mulQ [[x00,x01,x02,x03],[x10,x11,x12,x13],[x20,x21,x22,x23],[x30,x31,x32,x33]] (flM [[x00,x01,x02,x03],[x10,x11,x12,x13],[x20,x21,x22,x23],[x30,x31,x32,x33]] 4 3) 4) 4)
 rw[show trQ (mulQ [[x00,x01,x02,x03],[x10,x11,x12,x13],[x20,x21,x22,x23],[x30,x31,x32,x33]] (flM [[x00,x01,x02,x03],[x10,x11,x12,x13],[x20,x21,x22,x23],[x30,x31,x32,x33]] 4 3) 4) 4*Rat.divInt (-1) ((4:Nat):Int)=cofQ [[x00,x01,x02,x03],[x10,x11,x12,x13],[x20,x21,x22,x23],[x30,x31,x32,x33]] 4 3 from rfl,h3,tr4]at k3
 generalize cofQ [[x00,x01,x02,x03],[x10,x11,x12,x13],[x20,x21,x22,x23],[x30,x31,x32,x33]] 4 3=c3 at *
 rw[h3,step4]at h4
 clear h0 h1 h2 h3
 rw[h4]
 clear h4
 simp only[List.replicate,List.cons.injEq,and_true]
 refine ⟨⟨?_,?_,?_,?_⟩,⟨?_,?_,?_,?_⟩,⟨?_,?_,?_,?_⟩,⟨?_,?_,?_,?_⟩⟩<;>grind
theorem chz_all {n:Nat} {a:List (List Rat)} (hs:Sq n a) (hn:n≤4):flM a n n=List.replicate n (List.replicate n 0):=by
 obtain ⟨hl,hr⟩:=hs
 rcases n with _|_|_|_|_|n
 ·rfl
 ·obtain ⟨r0,rfl⟩:=len1 hl
  obtain ⟨x00,rfl⟩:=len1 (hr r0 (by simp))
  exact chz1 x00
 ·obtain ⟨r0,r1,rfl⟩:=len2 hl
  obtain ⟨x00,x01,rfl⟩:=len2 (hr r0 (by simp))
  obtain ⟨x10,x11,rfl⟩:=len2 (hr r1 (by simp))
  exact chz2 x00 x01 x10 x11
 ·obtain ⟨r0,r1,r2,rfl⟩:=len3 hl
  obtain ⟨x00,x01,x02,rfl⟩:=len3 (hr r0 (by simp))
  obtain ⟨x10,x11,x12,rfl⟩:=len3 (hr r1 (by simp))
  obtain ⟨x20,x21,x22,rfl⟩:=len3 (hr r2 (by simp))
  exact chz3 x00 x01 x02 x10 x11 x12 x20 x21 x22
 ·obtain ⟨r0,r1,r2,r3,rfl⟩:=len4 hl
  obtain ⟨x00,x01,x02,x03,rfl⟩:=len4 (hr r0 (by simp))
  obtain ⟨x10,x11,x12,x13,rfl⟩:=len4 (hr r1 (by simp))
  obtain ⟨x20,x21,x22,x23,rfl⟩:=len4 (hr r2 (by simp))
  obtain ⟨x30,x31,x32,x33,rfl⟩:=len4 (hr r3 (by simp))
  exact chz4 x00 x01 x02 x03 x10 x11 x12 x13 x20 x21 x22 x23 x30 x31 x32 x33
 ·omega
end Go.Eng

namespace Go.Eng
open F
attribute [local irreducible] AKM CmpP Req OpP UnP ConvP RdP LdR StR MkR LenP AppR AppN CpyR RowP SnR Bds SlS CallP CalP FinP pw LdM GetM SetM PutM MkM AppM SnM FlP CallR
set_option maxHeartbeats 1000000
variable {L:Lib}
def cmpS (a b:Int):Int:=if a<b then -1 else if b<a then 1 else 0
theorem cmpS_lt {a b:Int} (h:a<b) : -1=cmpS a b:=by unfold cmpS;rw[if_pos h]
theorem cmpS_gt {a b:Int} (h:b<a):1=cmpS a b:=by unfold cmpS;rw[if_neg (by omega),if_pos h]
theorem cmpS_eq {a b:Int} (h:a=b):0=cmpS a b:=by unfold cmpS;rw[if_neg (by omega),if_neg (by omega)]
theorem ev_isNaN_int (N:NatGLib L) (a:Int):Ev L 58 [.int .i64 a] (.bool false):=by
 refine Ev.x N.cmp_isNaN_int rfl rfl ?_
 (repeat' (first|(refine CmpP.go (fun hc => ?_) (fun hc => ?_)<;>first|(exfalso;omega)|(conv=>whnf))|(refine AKM.x ?_;conv=>whnf)))
 exact FinP.b rfl
theorem ev_isNaN_uint32 (N:NatGLib L) (a:Int):Ev L 59 [.int .u32 a] (.bool false):=by
 refine Ev.x N.cmp_isNaN_uint32 rfl rfl ?_
 (repeat' (first|(refine CmpP.go (fun hc => ?_) (fun hc => ?_)<;>first|(exfalso;omega)|(conv=>whnf))|(refine AKM.x ?_;conv=>whnf)))
 exact FinP.b rfl
theorem ev_Compare_int (N:NatGLib L) (a b:Int):Ev L 60 [.int .i64 a,.int .i64 b] (.int .i64 (cmpS a b)):=by
 refine Ev.x N.cmp_Compare_int rfl rfl ?_
 (repeat' (first|(refine CmpP.go (fun hc => ?_) (fun hc => ?_)<;>first|(exfalso;omega)|(conv=>whnf))|(refine AKM.x ?_;conv=>whnf)|(refine CallP.go (ev_isNaN_int N _) ?_;conv=>whnf)))
 ·exact FinP.i (cmpS_lt (by omega))
 ·exact FinP.i (cmpS_gt (by omega))
 ·exact FinP.i (cmpS_eq (by omega))
theorem ev_Compare_uint32 (N:NatGLib L) (a b:Int):Ev L 61 [.int .u32 a,.int .u32 b] (.int .i64 (cmpS a b)):=by
 refine Ev.x N.cmp_Compare_uint32 rfl rfl ?_
 (repeat' (first|(refine CmpP.go (fun hc => ?_) (fun hc => ?_)<;>first|(exfalso;omega)|(conv=>whnf))|(refine AKM.x ?_;conv=>whnf)|(refine CallP.go (ev_isNaN_uint32 N _) ?_;conv=>whnf)))
 ·exact FinP.i (cmpS_lt (by omega))
 ·exact FinP.i (cmpS_gt (by omega))
 ·exact FinP.i (cmpS_eq (by omega))
theorem ev_Clone (N:NatGLib L) (l:List Nat) (q:Bool) (hl:l.length≤1099511627776):Ev L 62 [.sl q (l.map e32)] (.sl false (l.map e32)):=by
 cases l with
 | nil =>
  refine EvD.nil N.slices_Clone_uint32_uint32 (EvD.x N.slices_Clone_uint32_uint32 rfl rfl ?_) (EvD.x N.slices_Clone_uint32_uint32 rfl rfl ?_)
  ·(repeat' (refine AKM.x ?_;conv=>whnf))
   exact FinP.go rfl (by simp [Clean,CleanLL])
  ·(repeat' (refine AKM.x ?_;conv=>whnf))
   refine AppR.many (enc:=e32) (l:=[]) (l':=[]) rfl (fun _=>rfl) (by simp) (by simp) ?_
   (conv=>whnf)
   (repeat' (refine SnR.all (fun _=>rfl) rfl ?_ ?_;(first|rfl|simp);conv=>whnf))
   exact FinP.go rfl (by simp [Clean,CleanLL])
 | cons d l =>
  refine EvD.cons (EvD.x N.slices_Clone_uint32_uint32 rfl rfl ?_)
  (repeat' (refine AKM.x ?_;conv=>whnf))
  refine Req.go (by simp) ?_
  (conv=>whnf)
  skip
  refine AppR.many (enc:=e32) (l:=[]) (l':=d::l) rfl (fun _=>rfl) (by simp at hl ⊢;omega) (by simp at hl ⊢;omega) ?_
  (conv=>whnf)
  (repeat' (refine SnR.all (fun _=>rfl) rfl ?_ ?_;(first|rfl|simp);conv=>whnf))
  exact FinP.go rfl (by simp only[Clean,true_and];exact cl_dig (d::l))
theorem ro_cut (N:NatGLib L) (l:List Nat) (q:Bool) (hD:Dig l) (hl:l.length≤1099511627776):RoF L 65 [.sl q (l.map e32)] (.sl q ((dg (val l)).map e32)):=by
 refine RoF.x N.nat_cut rfl rfl rfl rfl rfl ?_
 (repeat' (first|(refine LenP.go ?_;conv=>whnf)|(refine AKM.x ?_;conv=>whnf)))
 refine AKM.loop1 (fun n=>n) (fun (n:Nat)=>n≤l.length ∧ ∀ i,n≤i→i<l.length→l[i]? = some 0) (fun n=>[(3,.int .i64 n)]) (fun _=>[]) [] [] l.length (by (conv=>whnf);exact ⟨rfl,rfl,rfl⟩) ⟨Nat.le_refl _,fun i h1 h2=>by omega⟩ ?_
 intro n ⟨p1,p2⟩ ih
 rcases n with _|n
 ·(repeat' (first|(refine CmpP.go (fun hc => ?_) (fun hc => ?_)<;>first|(exfalso;omega)|(conv=>whnf))|(refine AKM.x ?_;conv=>whnf)))
  refine SlS.to (k:=0) (fun _=>rfl) (by omega) ?_
  (conv=>whnf)
  refine ⟨_,rfl,?_⟩
  rw[cut_found hD p1 p2 (Or.inl rfl)];rfl
 ·have e1:((n+1:Nat):Int)-1=n:=by omega
  (repeat' (first|(refine CmpP.go (fun hc => ?_) (fun hc => ?_)<;>first|(exfalso;omega)|(conv=>whnf))|(refine OpP.sub ?_ ?_;omega;conv=>whnf)|(refine RdP.digi (by assumption) ?_ (fun e he hb => ?_);omega;conv=>whnf)|(refine AKM.x ?_;conv=>whnf)))
  ·rw[e1]
   exact AKM.back [] (by (conv=>whnf);exact ⟨rfl,rfl,rfl⟩) (ih n (by omega) ⟨by omega,fun i h1 h2=>by
    by_cases h:i=n
    ·subst h
     rw[e1,Int.toNat_natCast]at he
     rw[he];congr 1;omega
    ·exact p2 i (by omega) h2⟩)
  ·refine SlS.to (k:=n+1) (fun _=>rfl) (by omega) ?_
   (conv=>whnf)
   refine ⟨_,rfl,?_⟩
   rw[e1,Int.toNat_natCast]at he
   rw[cut_found hD p1 p2 (Or.inr ⟨e,he,by omega⟩)];rfl
theorem ev_Trim (N:NatGLib L) (l:List Nat) (q:Bool) (hD:Dig l) (hl:l.length≤1099511627776):Ev L 66 [.sl q (l.map e32)] (.sl false ((dg (val l)).map e32)):=by
 have hc:=dg_len_val hD
 refine Ev.x N.nat_Trim rfl rfl ?_
 (repeat' (first|(refine AKM.x ?_;conv=>whnf)|(refine CalP.ro (ro_cut N l _ hD hl) ?_;conv=>whnf)|(refine CallP.go (ev_Clone N (dg (val l)) _ (by omega)) ?_;conv=>whnf)))
 exact FinP.go rfl (by simp only[Clean,true_and];exact cl_dig _)
theorem cmp_len {a b:Nat} (h:((dg a).length:Int)≠(dg b).length):cmpS (dg a).length (dg b).length=cmpS a b:=by
 rcases Nat.lt_trichotomy (dg a).length (dg b).length with h1|h1|h1
 ·have:=val_lt_of_len h1
  rw[←cmpS_lt (by omega),←cmpS_lt (by omega)]
 ·omega
 ·have:=val_lt_of_len h1
  rw[←cmpS_gt (by omega),←cmpS_gt (by omega)]
theorem ev_nat_Compare (N:NatGLib L) (a b:List Nat) (q1 q2:Bool) (hA:Dig a) (hB:Dig b) (la:a.length≤1099511627776) (lb:b.length≤1099511627776):Ev L 67 [.sl q1 (a.map e32),.sl q2 (b.map e32)] (.int .i64 (cmpS (val a) (val b))):=by
 have l1:=dg_len_val hA
 have l2:=dg_len_val hB
 have d1:=dig_dg (val a)
 have d2:=dig_dg (val b)
 refine Ev.x N.nat_Compare rfl rfl ?_
 (repeat' (first|(refine CmpP.go (fun hc => ?_) (fun hc => ?_)<;>first|(exfalso;omega)|(conv=>whnf))|(refine OpP.sub ?_ ?_;omega;conv=>whnf)|(refine LenP.go ?_;conv=>whnf)|(refine AKM.x ?_;conv=>whnf)|(refine CalP.ro (ro_cut N a _ hA la) ?_;conv=>whnf)|(refine CalP.ro (ro_cut N b _ hB lb) ?_;conv=>whnf)|(refine CallP.go (ev_Compare_int N _ _) ?_;conv=>whnf)))
 ·exact FinP.i (cmp_len (by omega))
 have hlen:(dg (val a)).length=(dg (val b)).length:=by omega
 have v1:=val_dg (val a)
 have v2:=val_dg (val b)
 generalize dg (val a)=X at *
 generalize dg (val b)=Y at *
 refine AKM.loop1 (fun n=>n) (fun (n:Nat)=>n≤X.length∧X.drop n=Y.drop n) (fun n=>[(7,.int .i64 ((n:Int)-1))]) (fun _=>[]) [] [] X.length (by (conv=>whnf);exact ⟨rfl,rfl,rfl⟩) ⟨Nat.le_refl _,by rw[List.drop_of_length_le (Nat.le_refl _),List.drop_of_length_le (by omega)]⟩ ?_
 intro n ⟨p1,p2⟩ ih
 rcases n with _|n
 ·(repeat' (first|(refine CmpP.go (fun hc => ?_) (fun hc => ?_)<;>first|(exfalso;omega)|(conv=>whnf))|(refine AKM.x ?_;conv=>whnf)))
  rw[List.drop_zero,List.drop_zero]at p2
  exact FinP.i (cmpS_eq (by rw[←v1,←v2,p2]))
 ·have e1:((n+1:Nat):Int)-1=n:=by omega
  rw[e1]
  (repeat' (first|(refine CmpP.go (fun hc => ?_) (fun hc => ?_)<;>first|(exfalso;omega)|(conv=>whnf))|(refine OpP.sub ?_ ?_;omega;conv=>whnf)|(refine RdP.at (by assumption) ?_ rfl ?_;omega;conv=>whnf)|(refine RdP.dig (by assumption) ?_ (fun e he hb => ?_);omega;conv=>whnf)|(refine AKM.x ?_;conv=>whnf)|(refine CallP.go (ev_Compare_uint32 N _ _) ?_;conv=>whnf)))
  ·rename_i x hx _
   rcases Nat.lt_trichotomy x e with h|h|h
   ·have:=val_lt_of_drop d1 d2 hlen hx he p2 h
    refine FinP.i ?_
    rw[←cmpS_lt (by omega),←cmpS_lt (by omega)]
   ·omega
   ·have:=val_lt_of_drop d2 d1 hlen.symm he hx p2.symm h
    refine FinP.i ?_
    rw[←cmpS_gt (by omega),←cmpS_gt (by omega)]
  ·rename_i x hx _
   refine AKM.back [] (by (conv=>whnf);exact ⟨rfl,rfl,rfl⟩) (ih n (by omega) ⟨by omega,?_⟩)
   obtain ⟨i1,e1⟩:=List.getElem?_eq_some_iff.1 hx
   obtain ⟨i2,e2⟩:=List.getElem?_eq_some_iff.1 he
   rw[List.drop_eq_getElem_cons i1,List.drop_eq_getElem_cons i2,p2,e1,e2]
   congr 1
   omega
end Go.Eng

namespace Go.Eng
open F
attribute [local irreducible] AKM CmpP Req OpP UnP ConvP RdP LdR StR MkR LenP AppR AppN CpyR RowP SnR Bds SlS CallP CalP FinP pw LdM GetM SetM PutM MkM AppM SnM FlP CallR
set_option maxHeartbeats 1000000
variable {L:Lib}
theorem val_take_end {y:List Nat} {i:Nat} (h:y.length≤i):val (y.take (i+1))=val (y.take i):=by
 rw[val_take_all h,val_take_all (by omega)]
theorem ev_nat_Add (N:NatGLib L) (a b:List Nat) (q1 q2:Bool) (hA:Dig a) (hB:Dig b) (la:a.length≤1099511627775) (lb:b.length≤1099511627775):Ev L 68 [.sl q1 (a.map e32),.sl q2 (b.map e32)] (.sl false ((dg (val a+val b)).map e32)):=by
 have l1:=dg_len_val hA
 have l2:=dg_len_val hB
 have d1:=dig_dg (val a)
 have d2:=dig_dg (val b)
 have v1:=val_dg (val a)
 have v2:=val_dg (val b)
 refine Ev.x N.nat_Add rfl rfl ?_
 (repeat' (first|(refine CmpP.go (fun hc => ?_) (fun hc => ?_)<;>first|(exfalso;omega)|(conv=>whnf))|(refine OpP.add ?_ ?_;omega;conv=>whnf)|(refine LenP.go ?_;conv=>whnf)|(refine AKM.x ?_;conv=>whnf)|(refine CalP.ro (ro_cut N a _ hA (by omega)) ?_;conv=>whnf)|(refine CalP.ro (ro_cut N b _ hB (by omega)) ?_;conv=>whnf)))
 ·generalize dg (val a)=y at *
  generalize dg (val b)=x at *
  rw[←v1,←v2,Nat.add_comm (val y)]
  have hlen:y.length≤x.length:=by omega
  have hxl:x.length≤1099511627775:=by omega
  clear v1 v2 hA hB la lb
  refine MkR.go (enc:=e32) 0 (x.length+1) rfl (by omega) (by omega) ?_
  (conv=>whnf)
  (repeat' (refine LenP.go ?_;conv=>whnf))
  refine AKM.loop3 (fun i _ _=>x.length-i) (fun (i:Nat) (o:List Nat) (c:Nat)=>i≤x.length∧o.length=x.length+1∧Dig o∧c≤1∧val (o.take i)+4294967296^i*c=val (x.take i)+val (y.take i)) (fun i o c=>[(8,.int .u64 (c:Int)),(29,.int .i64 i)]) (fun i o c=>[(26,26,.rw 1 (o.map e32))]) [] [] 0 (List.replicate (x.length+1) 0) 0 (by (conv=>whnf);exact ⟨rfl,rfl,rfl⟩) ⟨by omega,by simp,dig_zeros _,by omega,by simp [val]⟩ ?_
  intro i o c ⟨p1,p2,p3,p4,p5⟩ ih
  by_cases hi:i<x.length
  ·(repeat' (first|(refine CmpP.go (fun hc => ?_) (fun hc => ?_)<;>first|(exfalso;omega)|(conv=>whnf))|(refine Req.go ?_ ?_;omega;conv=>whnf)|(refine OpP.nadd ?_ ?_;omega;conv=>whnf)|(refine ConvP.u64 ?_ ?_;omega;conv=>whnf)|(refine ConvP.n32 ?_;conv=>whnf)|(refine LenP.go ?_;conv=>whnf)|(refine RdP.dig (by assumption) ?_ (fun e he hb => ?_);omega;conv=>whnf)|(refine AKM.x ?_;conv=>whnf)))
   ·rename_i d hd _
    refine StR.dig (by omega) ?_
    (conv=>whnf)
    (repeat' (first|(refine OpP.add ?_ ?_;omega;conv=>whnf)|(refine OpP.nshr32 ?_;conv=>whnf)))
    refine AKM.back [] (by (conv=>whnf);exact ⟨rfl,rfl,rfl⟩) (ih (i+1) _ _ (by omega) ⟨by omega,by simpa using p2,p3.set _ (by omega),by omega,?_⟩)
    have h1:=val_take_succ hd
    have h2:=val_take_succ he
    have h3:=carry_step (val (o.take i)) (4294967296^i) (d+c+e)
    have h4:=val_set_take (v:=(d+c+e)%4294967296) (show i<o.length by omega)
    rw[h4,h1,h2,Nat.pow_succ]
    generalize 4294967296^i=p at *
    rw[h3,Nat.mul_add,Nat.mul_add]
    omega
   ·refine StR.dig (by omega) ?_
    (conv=>whnf)
    (repeat' (first|(refine OpP.add ?_ ?_;omega;conv=>whnf)|(refine OpP.nshr32 ?_;conv=>whnf)))
    refine AKM.back [] (by (conv=>whnf);exact ⟨rfl,rfl,rfl⟩) (ih (i+1) _ _ (by omega) ⟨by omega,by simpa using p2,p3.set _ (by omega),by omega,?_⟩)
    have h1:=val_take_succ he
    have h2:=val_take_end (y:=y) (i:=i) (by omega)
    have h3:=carry_step (val (o.take i)) (4294967296^i) (e+c)
    have h4:=val_set_take (v:=(e+c)%4294967296) (show i<o.length by omega)
    rw[h4,h1,h2,Nat.pow_succ]
    generalize 4294967296^i=p at *
    rw[h3,Nat.mul_add]
    omega
  ·obtain rfl:i=x.length:=by omega
   clear ih
   (repeat' (first|(refine CmpP.go (fun hc => ?_) (fun hc => ?_)<;>first|(exfalso;omega)|(conv=>whnf))|(refine Req.go ?_ ?_;omega;conv=>whnf)|(refine ConvP.n32i ?_ ?_;omega;conv=>whnf)|(refine LenP.go ?_;conv=>whnf)|(refine AKM.x ?_;conv=>whnf)))
   refine StR.dig (by omega) ?_
   (conv=>whnf)
   skip
   have hV:val (o.set x.length c)=val x+val y:=by
    have h4:=val_set_take (v:=c) (show x.length<o.length by omega)
    rw[List.take_of_length_le (by simp;omega)]at h4
    rw[h4,p5,val_take_all (Nat.le_refl _),val_take_all hlen]
   have hD:Dig (o.set x.length c):=p3.set _ (by omega)
   have hL:(o.set x.length c).length=x.length+1:=by simpa using p2
   clear p3 p4 p5 p2
   generalize o.set x.length c=O at *
   rw[←hL]
   refine CalP.walk 1000 N.nat_cut rfl rfl ?_
   (repeat' (refine AKM.x ?_;conv=>whnf))
   refine AKM.loop1 (fun n=>n) (fun (n:Nat)=>n≤(O).length ∧ ∀ i,n≤i→i<(O).length→(O)[i]? = some 0) (fun n=>[(3,.int .i64 n)]) (fun _=>[]) [] [] (O).length (by first|exact (by (conv=>whnf);exact ⟨rfl,rfl,rfl⟩)|(simp only[List.length_set,List.length_replicate];exact (by (conv=>whnf);exact ⟨rfl,rfl,rfl⟩))) ⟨Nat.le_refl _,fun i h1 h2=>by omega⟩ ?_
   intro n ⟨p1,p2⟩ ih
   rcases n with _|n
   ·(repeat' (first|(refine CmpP.go (fun hc => ?_) (fun hc => ?_)<;>first|(exfalso;omega)|(conv=>whnf))|(refine AKM.x ?_;conv=>whnf)))
    refine Bds.up 0 (by omega) (by omega) ?_
    (conv=>whnf)
    refine ⟨rfl,_,rfl,?_⟩
    (conv=>whnf)
    have hm:=p1
    have hct:=cut_found (l:=O) (by assumption) p1 p2 (Or.inl rfl)
    clear ih p1 p2
    (refine SnR.part (enc:=e32) (fun _=>rfl) (by omega) ?_;(conv=>whnf);exact FinP.go (by rw[←hV,←hct];rfl) (by simp only[Clean,true_and];exact cl_dig _))
   ·have e1:((n+1:Nat):Int)-1=n:=by omega
    (repeat' (first|(refine CmpP.go (fun hc => ?_) (fun hc => ?_)<;>first|(exfalso;omega)|(conv=>whnf))|(refine Req.go ?_ ?_;omega;conv=>whnf)|(refine OpP.sub ?_ ?_;omega;conv=>whnf)|(refine LdR.digi (by assumption) ?_ (fun v hv hb => ?_);omega;conv=>whnf)|(refine AKM.x ?_;conv=>whnf)))
    ·rw[e1]
     exact AKM.back [] (by (conv=>whnf);exact ⟨rfl,rfl,rfl⟩) (ih n (by omega) ⟨by omega,fun i h1 h2=>by
      by_cases h:i=n
      ·subst h
       rw[e1,Int.toNat_natCast]at hv
       rw[hv];congr 1;omega
      ·exact p2 i (by omega) h2⟩)
    ·refine Bds.up (n+1) (by omega) (by omega) ?_
     (conv=>whnf)
     refine ⟨rfl,_,rfl,?_⟩
     (conv=>whnf)
     rw[e1,Int.toNat_natCast]at hv
     have hm:=p1
     have hct:=cut_found (l:=O) (by assumption) p1 p2 (Or.inr ⟨_,hv,by omega⟩)
     clear ih p1 p2 hv
     (refine SnR.part (enc:=e32) (fun _=>rfl) (by omega) ?_;(conv=>whnf);exact FinP.go (by rw[←hV,←hct];rfl) (by simp only[Clean,true_and];exact cl_dig _))
 ·generalize dg (val a)=x at *
  generalize dg (val b)=y at *
  rw[←v1,←v2]
  have hlen:y.length≤x.length:=by omega
  have hxl:x.length≤1099511627775:=by omega
  clear v1 v2 hA hB la lb
  refine MkR.go (enc:=e32) 0 (x.length+1) rfl (by omega) (by omega) ?_
  (conv=>whnf)
  (repeat' (refine LenP.go ?_;conv=>whnf))
  refine AKM.loop3 (fun i _ _=>x.length-i) (fun (i:Nat) (o:List Nat) (c:Nat)=>i≤x.length∧o.length=x.length+1∧Dig o∧c≤1∧val (o.take i)+4294967296^i*c=val (x.take i)+val (y.take i)) (fun i o c=>[(8,.int .u64 (c:Int)),(29,.int .i64 i)]) (fun i o c=>[(26,26,.rw 1 (o.map e32))]) [] [] 0 (List.replicate (x.length+1) 0) 0 (by (conv=>whnf);exact ⟨rfl,rfl,rfl⟩) ⟨by omega,by simp,dig_zeros _,by omega,by simp [val]⟩ ?_
  intro i o c ⟨p1,p2,p3,p4,p5⟩ ih
  by_cases hi:i<x.length
  ·(repeat' (first|(refine CmpP.go (fun hc => ?_) (fun hc => ?_)<;>first|(exfalso;omega)|(conv=>whnf))|(refine Req.go ?_ ?_;omega;conv=>whnf)|(refine OpP.nadd ?_ ?_;omega;conv=>whnf)|(refine ConvP.u64 ?_ ?_;omega;conv=>whnf)|(refine ConvP.n32 ?_;conv=>whnf)|(refine LenP.go ?_;conv=>whnf)|(refine RdP.dig (by assumption) ?_ (fun e he hb => ?_);omega;conv=>whnf)|(refine AKM.x ?_;conv=>whnf)))
   ·rename_i d hd _
    refine StR.dig (by omega) ?_
    (conv=>whnf)
    (repeat' (first|(refine OpP.add ?_ ?_;omega;conv=>whnf)|(refine OpP.nshr32 ?_;conv=>whnf)))
    refine AKM.back [] (by (conv=>whnf);exact ⟨rfl,rfl,rfl⟩) (ih (i+1) _ _ (by omega) ⟨by omega,by simpa using p2,p3.set _ (by omega),by omega,?_⟩)
    have h1:=val_take_succ hd
    have h2:=val_take_succ he
    have h3:=carry_step (val (o.take i)) (4294967296^i) (d+c+e)
    have h4:=val_set_take (v:=(d+c+e)%4294967296) (show i<o.length by omega)
    rw[h4,h1,h2,Nat.pow_succ]
    generalize 4294967296^i=p at *
    rw[h3,Nat.mul_add,Nat.mul_add]
    omega
   ·refine StR.dig (by omega) ?_
    (conv=>whnf)
    (repeat' (first|(refine OpP.add ?_ ?_;omega;conv=>whnf)|(refine OpP.nshr32 ?_;conv=>whnf)))
    refine AKM.back [] (by (conv=>whnf);exact ⟨rfl,rfl,rfl⟩) (ih (i+1) _ _ (by omega) ⟨by omega,by simpa using p2,p3.set _ (by omega),by omega,?_⟩)
    have h1:=val_take_succ he
    have h2:=val_take_end (y:=y) (i:=i) (by omega)
    have h3:=carry_step (val (o.take i)) (4294967296^i) (e+c)
    have h4:=val_set_take (v:=(e+c)%4294967296) (show i<o.length by omega)
    rw[h4,h1,h2,Nat.pow_succ]
    generalize 4294967296^i=p at *
    rw[h3,Nat.mul_add]
    omega
  ·obtain rfl:i=x.length:=by omega
   clear ih
   (repeat' (first|(refine CmpP.go (fun hc => ?_) (fun hc => ?_)<;>first|(exfalso;omega)|(conv=>whnf))|(refine Req.go ?_ ?_;omega;conv=>whnf)|(refine ConvP.n32i ?_ ?_;omega;conv=>whnf)|(refine LenP.go ?_;conv=>whnf)|(refine AKM.x ?_;conv=>whnf)))
   refine StR.dig (by omega) ?_
   (conv=>whnf)
   skip
   have hV:val (o.set x.length c)=val x+val y:=by
    have h4:=val_set_take (v:=c) (show x.length<o.length by omega)
    rw[List.take_of_length_le (by simp;omega)]at h4
    rw[h4,p5,val_take_all (Nat.le_refl _),val_take_all hlen]
   have hD:Dig (o.set x.length c):=p3.set _ (by omega)
   have hL:(o.set x.length c).length=x.length+1:=by simpa using p2
   clear p3 p4 p5 p2
   generalize o.set x.length c=O at *
   rw[←hL]
   refine CalP.walk 1000 N.nat_cut rfl rfl ?_
   (repeat' (refine AKM.x ?_;conv=>whnf))
   refine AKM.loop1 (fun n=>n) (fun (n:Nat)=>n≤(O).length ∧ ∀ i,n≤i→i<(O).length→(O)[i]? = some 0) (fun n=>[(3,.int .i64 n)]) (fun _=>[]) [] [] (O).length (by first|exact (by (conv=>whnf);exact ⟨rfl,rfl,rfl⟩)|(simp only[List.length_set,List.length_replicate];exact (by (conv=>whnf);exact ⟨rfl,rfl,rfl⟩))) ⟨Nat.le_refl _,fun i h1 h2=>by omega⟩ ?_
   intro n ⟨p1,p2⟩ ih
   rcases n with _|n
   ·(repeat' (first|(refine CmpP.go (fun hc => ?_) (fun hc => ?_)<;>first|(exfalso;omega)|(conv=>whnf))|(refine AKM.x ?_;conv=>whnf)))
    refine Bds.up 0 (by omega) (by omega) ?_
    (conv=>whnf)
    refine ⟨rfl,_,rfl,?_⟩
    (conv=>whnf)
    have hm:=p1
    have hct:=cut_found (l:=O) (by assumption) p1 p2 (Or.inl rfl)
    clear ih p1 p2
    (refine SnR.part (enc:=e32) (fun _=>rfl) (by omega) ?_;(conv=>whnf);exact FinP.go (by rw[←hV,←hct];rfl) (by simp only[Clean,true_and];exact cl_dig _))
   ·have e1:((n+1:Nat):Int)-1=n:=by omega
    (repeat' (first|(refine CmpP.go (fun hc => ?_) (fun hc => ?_)<;>first|(exfalso;omega)|(conv=>whnf))|(refine Req.go ?_ ?_;omega;conv=>whnf)|(refine OpP.sub ?_ ?_;omega;conv=>whnf)|(refine LdR.digi (by assumption) ?_ (fun v hv hb => ?_);omega;conv=>whnf)|(refine AKM.x ?_;conv=>whnf)))
    ·rw[e1]
     exact AKM.back [] (by (conv=>whnf);exact ⟨rfl,rfl,rfl⟩) (ih n (by omega) ⟨by omega,fun i h1 h2=>by
      by_cases h:i=n
      ·subst h
       rw[e1,Int.toNat_natCast]at hv
       rw[hv];congr 1;omega
      ·exact p2 i (by omega) h2⟩)
    ·refine Bds.up (n+1) (by omega) (by omega) ?_
     (conv=>whnf)
     refine ⟨rfl,_,rfl,?_⟩
     (conv=>whnf)
     rw[e1,Int.toNat_natCast]at hv
     have hm:=p1
     have hct:=cut_found (l:=O) (by assumption) p1 p2 (Or.inr ⟨_,hv,by omega⟩)
     clear ih p1 p2 hv
     (refine SnR.part (enc:=e32) (fun _=>rfl) (by omega) ?_;(conv=>whnf);exact FinP.go (by rw[←hV,←hct];rfl) (by simp only[Clean,true_and];exact cl_dig _))
theorem cmpS_le {a b:Int} (h:cmpS a b≤0):a≤b:=by
 unfold cmpS at h
 split at h
 ·omega
 ·split at h<;>omega
theorem cmpS_pos {a b:Int} (h:0<cmpS a b):b<a:=by
 unfold cmpS at h
 split at h
 ·omega
 ·split at h<;>omega
theorem ev_nat_Sub (N:NatGLib L) (a b:List Nat) (q1 q2:Bool) (hA:Dig a) (hB:Dig b) (la:a.length≤1099511627776) (lb:b.length≤1099511627776):Ev L 69 [.sl q1 (a.map e32),.sl q2 (b.map e32)] (.sl false ((dg (val a-val b)).map e32)):=by
 have l1:=dg_len_val hA
 have l2:=dg_len_val hB
 have d1:=dig_dg (val a)
 have d2:=dig_dg (val b)
 have v1:=val_dg (val a)
 have v2:=val_dg (val b)
 refine Ev.x N.nat_Sub rfl rfl ?_
 (repeat' (first|(refine CmpP.go (fun hc => ?_) (fun hc => ?_)<;>first|(exfalso;omega)|(conv=>whnf))|(refine LenP.go ?_;conv=>whnf)|(refine AKM.x ?_;conv=>whnf)|(refine CallP.go (ev_nat_Compare N a b _ _ hA hB la lb) ?_;conv=>whnf)|(refine CalP.ro (ro_cut N a _ hA la) ?_;conv=>whnf)|(refine CalP.ro (ro_cut N b _ hB lb) ?_;conv=>whnf)))
 ·have:=cmpS_le hc
  refine FinP.go ?_ (by simp only[Clean,true_and];exact cl_dig _)
  rw[show val a-val b=0 by omega,dg_zero];rfl
 ·have hlt:=cmpS_pos hc
  have hll:(dg (val b)).length≤(dg (val a)).length:=by
   rcases Nat.lt_or_ge (dg (val a)).length (dg (val b)).length with h|h
   ·have:=val_lt_of_len h;omega
   ·exact h
  have hlt':val b<val a:=by omega
  clear hlt hc
  generalize dg (val a)=x at *
  generalize dg (val b)=y at *
  rw[←v1,←v2]at hlt' ⊢
  clear v1 v2 hA hB lb
  refine MkR.go (enc:=e32) 0 x.length rfl rfl (by omega) ?_
  (conv=>whnf)
  (repeat' (refine LenP.go ?_;conv=>whnf))
  refine AKM.loop3 (fun i _ _=>x.length-i) (fun (i:Nat) (o:List Nat) (c:Nat)=>i≤x.length∧o.length=x.length∧Dig o∧c≤1∧val (o.take i)+val (y.take i)=val (x.take i)+4294967296^i*c) (fun i o c=>[(8,.int .u64 (c:Int)),(25,.int .i64 i)]) (fun i o c=>[(22,22,.rw 1 (o.map e32))]) [] [] 0 (List.replicate x.length 0) 0 (by (conv=>whnf);exact ⟨rfl,rfl,rfl⟩) ⟨by omega,by simp,dig_zeros _,by omega,by simp [val]⟩ ?_
  intro i o c ⟨p1,p2,p3,p4,p5⟩ ih
  by_cases hi:i<x.length
  ·(repeat' (first|(refine CmpP.go (fun hc => ?_) (fun hc => ?_)<;>first|(exfalso;omega)|(conv=>whnf))|(refine Req.go ?_ ?_;omega;conv=>whnf)|(refine OpP.nsubw ?_ ?_;omega;conv=>whnf)|(refine ConvP.u64 ?_ ?_;omega;conv=>whnf)|(refine ConvP.n32 ?_;conv=>whnf)|(refine LenP.go ?_;conv=>whnf)|(refine RdP.dig (by assumption) ?_ (fun e he hb => ?_);omega;conv=>whnf)|(refine AKM.x ?_;conv=>whnf)))
   ·rename_i d hd hdb
    obtain ⟨s1,s2⟩:=sub_step2 hdb hb p4
    refine StR.dig (by omega) ?_
    (conv=>whnf)
    (repeat' (first|(refine OpP.add ?_ ?_;omega;conv=>whnf)|(refine OpP.nshr63 ?_;conv=>whnf)))
    generalize w64s (w64s d c) e=t at *
    refine AKM.back [] (by (conv=>whnf);exact ⟨rfl,rfl,rfl⟩) (ih (i+1) _ _ (by omega) ⟨by omega,by simpa using p2,p3.set _ (by omega),s2,?_⟩)
    rw[val_set_take (by omega),val_take_succ hd,val_take_succ he,Nat.pow_succ]
    exact sub_carry p5 s1
   ·obtain ⟨s1,s2⟩:=sub_step1 hb p4
    refine StR.dig (by omega) ?_
    (conv=>whnf)
    (repeat' (first|(refine OpP.add ?_ ?_;omega;conv=>whnf)|(refine OpP.nshr63 ?_;conv=>whnf)))
    generalize w64s e c=t at *
    refine AKM.back [] (by (conv=>whnf);exact ⟨rfl,rfl,rfl⟩) (ih (i+1) _ _ (by omega) ⟨by omega,by simpa using p2,p3.set _ (by omega),s2,?_⟩)
    rw[val_set_take (by omega),val_take_succ he,val_take_end (by omega),Nat.pow_succ]
    rw[←Nat.add_zero (t%4294967296)]at s1
    have:=sub_carry (e:=0) p5 s1
    rw[Nat.mul_zero,Nat.add_zero]at this
    exact this
  ·obtain rfl:i=x.length:=by omega
   clear ih
   have hc0:c=0:=by
    rw[val_take_all (by omega),val_take_all hll,val_take_all (Nat.le_refl _)]at p5
    have:=val_lt p3
    rw[p2]at this
    rcases Nat.eq_zero_or_pos c with h|h
    ·exact h
    ·have:c=1:=by omega
     subst this
     omega
   subst hc0
   have hV:val o=val x-val y:=by
    rw[val_take_all (by omega),val_take_all hll,val_take_all (Nat.le_refl _)]at p5
    omega
   clear p5 p4
   rw[←p2]
   (repeat' (first|(refine CmpP.go (fun hc => ?_) (fun hc => ?_)<;>first|(exfalso;omega)|(conv=>whnf))|(refine AKM.x ?_;conv=>whnf)))
   refine CalP.walk 1000 N.nat_cut rfl rfl ?_
   (repeat' (refine AKM.x ?_;conv=>whnf))
   refine AKM.loop1 (fun n=>n) (fun (n:Nat)=>n≤(o).length ∧ ∀ i,n≤i→i<(o).length→(o)[i]? = some 0) (fun n=>[(3,.int .i64 n)]) (fun _=>[]) [] [] (o).length (by first|exact (by (conv=>whnf);exact ⟨rfl,rfl,rfl⟩)|(simp only[List.length_set,List.length_replicate];exact (by (conv=>whnf);exact ⟨rfl,rfl,rfl⟩))) ⟨Nat.le_refl _,fun i h1 h2=>by omega⟩ ?_
   intro n ⟨p1,p2⟩ ih
   rcases n with _|n
   ·(repeat' (first|(refine CmpP.go (fun hc => ?_) (fun hc => ?_)<;>first|(exfalso;omega)|(conv=>whnf))|(refine AKM.x ?_;conv=>whnf)))
    refine Bds.up 0 (by omega) (by omega) ?_
    (conv=>whnf)
    refine ⟨rfl,_,rfl,?_⟩
    (conv=>whnf)
    have hm:=p1
    have hct:=cut_found (l:=o) (by assumption) p1 p2 (Or.inl rfl)
    clear ih p1 p2
    (refine SnR.part (enc:=e32) (fun _=>rfl) (by omega) ?_;(conv=>whnf);exact FinP.go (by rw[←hV,←hct];rfl) (by simp only[Clean,true_and];exact cl_dig _))
   ·have e1:((n+1:Nat):Int)-1=n:=by omega
    (repeat' (first|(refine CmpP.go (fun hc => ?_) (fun hc => ?_)<;>first|(exfalso;omega)|(conv=>whnf))|(refine Req.go ?_ ?_;omega;conv=>whnf)|(refine OpP.sub ?_ ?_;omega;conv=>whnf)|(refine LdR.digi (by assumption) ?_ (fun v hv hb => ?_);omega;conv=>whnf)|(refine AKM.x ?_;conv=>whnf)))
    ·rw[e1]
     exact AKM.back [] (by (conv=>whnf);exact ⟨rfl,rfl,rfl⟩) (ih n (by omega) ⟨by omega,fun i h1 h2=>by
      by_cases h:i=n
      ·subst h
       rw[e1,Int.toNat_natCast]at hv
       rw[hv];congr 1;omega
      ·exact p2 i (by omega) h2⟩)
    ·refine Bds.up (n+1) (by omega) (by omega) ?_
     (conv=>whnf)
     refine ⟨rfl,_,rfl,?_⟩
     (conv=>whnf)
     rw[e1,Int.toNat_natCast]at hv
     have hm:=p1
     have hct:=cut_found (l:=o) (by assumption) p1 p2 (Or.inr ⟨_,hv,by omega⟩)
     clear ih p1 p2 hv
     (refine SnR.part (enc:=e32) (fun _=>rfl) (by omega) ?_;(conv=>whnf);exact FinP.go (by rw[←hV,←hct];rfl) (by simp only[Clean,true_and];exact cl_dig _))
theorem ev_nat_Mul (N:NatGLib L) (a b:List Nat) (q1 q2:Bool) (hA:Dig a) (hB:Dig b) (lab:a.length+b.length≤1099511627776):Ev L 70 [.sl q1 (a.map e32),.sl q2 (b.map e32)] (.sl false ((dg (val a*val b)).map e32)):=by
 have l1:=dg_len_val hA
 have l2:=dg_len_val hB
 have d1:=dig_dg (val a)
 have d2:=dig_dg (val b)
 have v1:=val_dg (val a)
 have v2:=val_dg (val b)
 refine Ev.x N.nat_Mul rfl rfl ?_
 have hz : ∀ p:Prop,((dg (val a)).length:Int)=0∨((dg (val b)).length:Int)=0→FinP (.sl false []) (.sl false ((dg (val a*val b)).map e32)):=fun _ h=>by
  have:val a*val b=0:=by
   rcases h with h|h
   ·have:dg (val a)=[]:=List.eq_nil_of_length_eq_zero (by omega)
    rw[dg_eq_nil.1 this,Nat.zero_mul]
   ·have:dg (val b)=[]:=List.eq_nil_of_length_eq_zero (by omega)
    rw[dg_eq_nil.1 this,Nat.mul_zero]
  exact FinP.go (by rw[this,dg_zero];rfl) (by simp only[Clean,true_and];exact cl_dig _)
 (repeat' (first|(refine CmpP.go (fun hc => ?_) (fun hc => ?_)<;>first|(exfalso;omega)|(conv=>whnf))|(refine OpP.add ?_ ?_;omega;conv=>whnf)|(refine LenP.go ?_;conv=>whnf)|(refine AKM.x ?_;conv=>whnf)|(refine CalP.ro (ro_cut N a _ hA (by omega)) ?_;conv=>whnf)|(refine CalP.ro (ro_cut N b _ hB (by omega)) ?_;conv=>whnf)))
 ·exact hz True (Or.inl hc)
 ·exact hz True (Or.inr hc)
 ·clear hz
  generalize dg (val a)=x at *
  generalize dg (val b)=y at *
  rw[←v1,←v2]
  have hxy:x.length+y.length≤1099511627776:=by omega
  clear v1 v2 hA hB lab l1 l2
  refine MkR.go (enc:=e32) 0 (x.length+y.length) rfl (by omega) (by omega) ?_
  (conv=>whnf)
  (repeat' (refine LenP.go ?_;conv=>whnf))
  refine AKM.loop2 (fun i _=>x.length-i) (fun (i:Nat) (o:List Nat)=>i≤x.length∧o.length=x.length+y.length∧Dig o∧val o=val (x.take i)*val y ∧ ∀ k,i+y.length≤k→k<o.length→o[k]? = some 0) (fun i o=>[(34,.int .i64 i)]) (fun i o=>[(31,31,.rw 1 (o.map e32))]) [] [] 0 (List.replicate (x.length+y.length) 0) (by (conv=>whnf);exact ⟨rfl,rfl,rfl⟩) ⟨by omega,by simp,dig_zeros _,by simp [val,val_zeros],fun k h1 h2=>by simp at h2;simp [h2]⟩ ?_
  intro i O ⟨p1,p2,p3,p4,p5⟩ ih
  by_cases hi:i<x.length
  ·obtain ⟨d,hd⟩ : ∃ d,x[i]? = some d:=⟨_,List.getElem?_eq_getElem hi⟩
   have hdb:=d1.at hd
   (repeat' (first|(refine CmpP.go (fun hc => ?_) (fun hc => ?_)<;>first|(exfalso;omega)|(conv=>whnf))|(refine OpP.add ?_ ?_;omega;conv=>whnf)|(refine LenP.go ?_;conv=>whnf)|(refine RdP.at (by assumption) ?_ rfl ?_;omega;conv=>whnf)|(refine AKM.x ?_;conv=>whnf)))
   ·refine AKM.back [] (by (conv=>whnf);exact ⟨rfl,rfl,rfl⟩) (ih (i+1) O (by omega) ⟨by omega,p2,p3,?_,fun k h1 h2=>p5 k (by omega) h2⟩)
    rw[val_take_succ hd,p4,show d=0 by omega,Nat.mul_zero,Nat.add_zero]
   ·refine AKM.loop3 (fun j _ _=>y.length-j) (fun (j:Nat) (o:List Nat) (c:Nat)=>j≤y.length∧o.length=x.length+y.length∧Dig o∧c<4294967296∧val o+4294967296^(i+j)*c=val O+4294967296^i*(d*val (y.take j)) ∧ ∀ k,i+j≤k→o[k]? = O[k]?) (fun j o c=>[(10,.int .u64 (c:Int)),(43,.int .i64 j)]) (fun j o c=>[(31,31,.rw 1 (o.map e32))]) [] [] 0 O 0 (by (conv=>whnf);exact ⟨rfl,rfl,rfl⟩) ⟨by omega,p2,p3,by omega,by simp [val],fun _ _=>rfl⟩ ?_
    intro j o c ⟨r1,r2,r3,r4,r5,r6⟩ jh
    have e1:((i:Int)+j).toNat=i+j:=by omega
    by_cases hj:j<y.length
    ·obtain ⟨w,hw⟩ : ∃ w,y[j]? = some w:=⟨_,List.getElem?_eq_getElem hj⟩
     have hwb:=d2.at hw
     have hm:=mul_le_dig hdb hwb
     (repeat' (first|(refine CmpP.go (fun hc => ?_) (fun hc => ?_)<;>first|(exfalso;omega)|(conv=>whnf))|(refine Req.go ?_ ?_;omega;conv=>whnf)|(refine OpP.add ?_ ?_;omega;conv=>whnf)|(refine OpP.nadd ?_ ?_;omega;conv=>whnf)|(refine OpP.nmul ?_ ?_;omega;conv=>whnf)|(refine ConvP.u64 ?_ ?_;omega;conv=>whnf)|(refine ConvP.n32 ?_;conv=>whnf)|(refine RdP.at (by assumption) ?_ rfl ?_;omega;conv=>whnf)|(refine LdR.dig (by assumption) ?_ (fun v hv hb => ?_);omega;conv=>whnf)|(refine AKM.x ?_;conv=>whnf)))
     refine StR.digo (i+j) (by omega) (by omega) ?_
     (conv=>whnf)
     (repeat' (first|(refine OpP.add ?_ ?_;omega;conv=>whnf)|(refine OpP.nshr32 ?_;conv=>whnf)))
     refine AKM.back [] (by (conv=>whnf);exact ⟨rfl,rfl,rfl⟩) (jh (j+1) _ _ (by omega) ⟨by omega,by simpa using r2,r3.set _ (by omega),by omega,?_,?_⟩)
     ·have h1:=val_set (v:=(d*w+v+c)%4294967296) hv
      have h2:=carry_step 0 (4294967296^(i+j)) (d*w+v+c)
      rw[val_take_succ hw,show i+(j+1)=i+j+1 by omega,Nat.pow_succ (4294967296) (i+j)]
      have h3:4294967296^i*(d*(val (y.take j)+4294967296^j*w))=4294967296^i*(d*val (y.take j))+4294967296^(i+j)*(d*w):=by rw[Nat.pow_add];grind
      rw[h3]
      generalize 4294967296^(i+j)=P at *
      rw[Nat.mul_add P,Nat.mul_add P]at h2
      omega
     ·intro k hk
      rw[List.getElem?_set_ne (by omega)]
      exact r6 k (by omega)
    ·obtain rfl:j=y.length:=by omega
     clear jh
     (repeat' (first|(refine CmpP.go (fun hc => ?_) (fun hc => ?_)<;>first|(exfalso;omega)|(conv=>whnf))|(refine Req.go ?_ ?_;omega;conv=>whnf)|(refine OpP.add ?_ ?_;omega;conv=>whnf)|(refine ConvP.n32i ?_ ?_;omega;conv=>whnf)|(refine LenP.go ?_;conv=>whnf)|(refine AKM.x ?_;conv=>whnf)))
     have hz:=r6 (i+y.length) (by omega)
     rw[p5 (i+y.length) (by omega) (by omega)]at hz
     refine StR.digo (i+y.length) (by omega) (by omega) ?_
     (conv=>whnf)
     (repeat' (refine OpP.add ?_ ?_;omega;conv=>whnf))
     refine AKM.back [] (by (conv=>whnf);exact ⟨rfl,rfl,rfl⟩) (ih (i+1) _ (by omega) ⟨by omega,by simpa using r2,r3.set _ (by omega),?_,?_⟩)
     ·have h1:=val_set (v:=c) hz
      rw[Nat.mul_zero,Nat.add_zero]at h1
      rw[h1,r5,p4,val_take_all (Nat.le_refl _),val_take_succ hd,Nat.add_mul,Nat.mul_assoc]
     ·intro k h1 h2
      rw[List.length_set]at h2
      rw[List.getElem?_set_ne (by omega),r6 k (by omega)]
      exact p5 k (by omega) (by omega)
  ·obtain rfl:i=x.length:=by omega
   clear ih
   rw[val_take_all (Nat.le_refl _)]at p4
   rw[←p4,←p2]
   (repeat' (first|(refine CmpP.go (fun hc => ?_) (fun hc => ?_)<;>first|(exfalso;omega)|(conv=>whnf))|(refine AKM.x ?_;conv=>whnf)))
   clear p5
   refine CalP.walk 1000 N.nat_cut rfl rfl ?_
   (repeat' (refine AKM.x ?_;conv=>whnf))
   refine AKM.loop1 (fun n=>n) (fun (n:Nat)=>n≤(O).length ∧ ∀ i,n≤i→i<(O).length→(O)[i]? = some 0) (fun n=>[(3,.int .i64 n)]) (fun _=>[]) [] [] (O).length (by first|exact (by (conv=>whnf);exact ⟨rfl,rfl,rfl⟩)|(simp only[List.length_set,List.length_replicate];exact (by (conv=>whnf);exact ⟨rfl,rfl,rfl⟩))) ⟨Nat.le_refl _,fun i h1 h2=>by omega⟩ ?_
   intro n ⟨p1,p2⟩ ih
   rcases n with _|n
   ·(repeat' (first|(refine CmpP.go (fun hc => ?_) (fun hc => ?_)<;>first|(exfalso;omega)|(conv=>whnf))|(refine AKM.x ?_;conv=>whnf)))
    refine Bds.up 0 (by omega) (by omega) ?_
    (conv=>whnf)
    refine ⟨rfl,_,rfl,?_⟩
    (conv=>whnf)
    have hm:=p1
    have hct:=cut_found (l:=O) (by assumption) p1 p2 (Or.inl rfl)
    clear ih p1 p2
    (refine SnR.part (enc:=e32) (fun _=>rfl) (by omega) ?_;(conv=>whnf);exact FinP.go (by rw[←hct];rfl) (by simp only[Clean,true_and];exact cl_dig _))
   ·have e1:((n+1:Nat):Int)-1=n:=by omega
    (repeat' (first|(refine CmpP.go (fun hc => ?_) (fun hc => ?_)<;>first|(exfalso;omega)|(conv=>whnf))|(refine Req.go ?_ ?_;omega;conv=>whnf)|(refine OpP.sub ?_ ?_;omega;conv=>whnf)|(refine LdR.digi (by assumption) ?_ (fun v hv hb => ?_);omega;conv=>whnf)|(refine AKM.x ?_;conv=>whnf)))
    ·rw[e1]
     exact AKM.back [] (by (conv=>whnf);exact ⟨rfl,rfl,rfl⟩) (ih n (by omega) ⟨by omega,fun i h1 h2=>by
      by_cases h:i=n
      ·subst h
       rw[e1,Int.toNat_natCast]at hv
       rw[hv];congr 1;omega
      ·exact p2 i (by omega) h2⟩)
    ·refine Bds.up (n+1) (by omega) (by omega) ?_
     (conv=>whnf)
     refine ⟨rfl,_,rfl,?_⟩
     (conv=>whnf)
     rw[e1,Int.toNat_natCast]at hv
     have hm:=p1
     have hct:=cut_found (l:=O) (by assumption) p1 p2 (Or.inr ⟨_,hv,by omega⟩)
     clear ih p1 p2 hv
     (refine SnR.part (enc:=e32) (fun _=>rfl) (by omega) ?_;(conv=>whnf);exact FinP.go (by rw[←hct];rfl) (by simp only[Clean,true_and];exact cl_dig _))
end Go.Eng

namespace Go.Eng
open F
section
variable {K:AV→Prop} {a b s:Nat} {k':IntKind}
theorem OpP.sh4 (hs:s≤32) (hk:K (.int .u32 ((shLo a s:Nat):Int))):OpP .shl .u32 (a:Int) k' (s:Int) K:=by
 refine OpP.nshlv (show s≤IntKind.u32.bits from hs) ?_
 rw[wrap_u32,←shLo_def];exact hk
theorem OpP.sh8 (hs:s≤64) (h:a*2^s≤18446744073709551615) (hk:K (.int .u64 ((a*2^s:Nat):Int))):OpP .shl .u64 (a:Int) k' (s:Int) K:=by
 refine OpP.nshlv (show s≤IntKind.u64.bits from hs) ?_
 rw[IntWalk.u64_in _ (by omega)];exact hk
theorem OpP.or4 (n:Nat) (hx:a%2^n=0) (hy:b<2^n) (h:a+b≤4294967295) (hk:K (.int .u32 ((a+b:Nat):Int))):OpP .or .u32 (a:Int) .u32 (b:Int) K :=
 OpP.norv n hx hy (show a+b<4294967296 by omega) (IntWalk.u32_in _ (by omega)) hk
theorem OpP.or4r (n:Nat) (hx:b%2^n=0) (hy:a<2^n) (h:a+b≤4294967295) (hk:K (.int .u32 ((a+b:Nat):Int))):OpP .or .u32 (a:Int) .u32 (b:Int) K:=by
 have e:intBin .or .u32 (a:Int) .u32 (b:Int)=intBin .or .u32 (b:Int) .u32 (a:Int):=by
  simp only[intBin,if_true,BitVec.or_comm]
 rw[Nat.add_comm]at hk h
 obtain ⟨v,h1,h2⟩:=OpP.or4 (K:=K) n hx hy h hk
 exact ⟨v,by rw[e];exact h1,h2⟩
theorem OpP.sr4 (hs:s≤32) (hk:K (.int .u32 ((a/2^s:Nat):Int))):OpP .shr .u32 (a:Int) k' (s:Int) K:=OpP.nshrv (show s≤IntKind.u32.bits from hs) hk
theorem ConvP.hi {K:Int→Prop} (hk:K ((shHi a s:Nat):Int)) (h:shHi a s≤4294967295):ConvP .u32 ((a*2^s/4294967296:Nat):Int) K:=by
 rw[←shHi_def]
 exact ConvP.n32i h hk
end
attribute [local irreducible] AKM CmpP Req OpP UnP ConvP RdP LdR StR MkR LenP AppR AppN CpyR RowP SnR Bds SlS CallP CalP FinP pw LdM GetM SetM PutM MkM AppM SnM FlP CallR
set_option maxHeartbeats 1000000
variable {L:Lib}
def LiftIs (a:List Nat) (s:Nat) (o:List Nat):Prop:=Dig o∧(a.length≤o.length∧o.length≤a.length+1)∧(val a*2^s<4294967296^o.length→val o=val a*2^s)
theorem lift_end {a o:List Nat} {s lo:Nat} (hD:Dig o) (hl:o.length=a.length) (h:val (o.take a.length)+4294967296^a.length*lo=val (a.take a.length)*2^s):LiftIs a s o:=by
 refine ⟨hD,by omega,fun hlt => ?_⟩
 rw[val_take_all (by omega),val_take_all (Nat.le_refl _)]at h
 rw[hl]at hlt
 have:lo=0:=by
  rcases Nat.eq_zero_or_pos lo with h0|h0
  ·exact h0
  ·have:4294967296^a.length*1≤4294967296^a.length*lo:=Nat.mul_le_mul_left _ h0
   omega
 subst this
 omega
theorem lift_end2 {a o:List Nat} {s lo:Nat} (hD:Dig o) (hlo:lo<4294967296) (hl:o.length=a.length+1) (h:val (o.take a.length)+4294967296^a.length*lo=val (a.take a.length)*2^s):LiftIs a s (o.set a.length lo):=by
 refine ⟨hD.set _ hlo,by simp;omega,fun _ => ?_⟩
 have h1:=val_set_take (v:=lo) (show a.length<o.length by omega)
 rw[val_take_all (by simp;omega),h,val_take_all (Nat.le_refl _)]at h1
 exact h1
theorem ev_nat_lift (N:NatGLib L) (a:List Nat) (q:Bool) (s n:Nat) (hA:Dig a) (hs:s≤31) (hn:a.length≤n∧n≤a.length+1) (la:a.length≤1099511627776) : ∃ r,Ev L 71 [.sl q (a.map e32),.int .u64 (s:Int),.int .i64 (n:Int)] r ∧ ∃ o,LiftIs a s o∧o.length=n∧r = .sl false (o.map e32):=by
 refine Ev.xE N.nat_lift rfl rfl ?_
 (repeat' (refine AKM.x ?_;conv=>whnf))
 refine MkR.go (enc:=e32) 0 n rfl rfl (by omega) ?_
 (conv=>whnf)
 (repeat' (refine LenP.go ?_;conv=>whnf))
 refine AKM.loop3 (fun i _ _=>a.length-i) (fun (i:Nat) (o:List Nat) (lo:Nat)=>i≤a.length∧o.length=n∧Dig o∧lo<2^s∧val (o.take i)+4294967296^i*lo=val (a.take i)*2^s) (fun i o lo=>[(8,.int .u32 (lo:Int)),(15,.int .i64 i)]) (fun i o lo=>[(71012,71012,.rw 1 (o.map e32))]) [] [] 0 (List.replicate n 0) 0 (by (conv=>whnf);exact ⟨rfl,rfl,rfl⟩) ⟨by omega,by simp,dig_zeros _,Nat.two_pow_pos s,by simp [val]⟩ ?_
 intro i o lo ⟨p1,p2,p3,p4,p5⟩ ih
 have hps:=pow_s_le (s:=s) (by omega)
 by_cases hi:i<a.length
 ·obtain ⟨d,hd⟩ : ∃ d,a[i]? = some d:=⟨_,List.getElem?_eq_getElem hi⟩
  have hdb:=hA.at hd
  obtain ⟨f1,f2,f3,f4⟩:=sh_facts (s:=s) hdb (by omega)
  (repeat' (first|(refine CmpP.go (fun hc => ?_) (fun hc => ?_)<;>first|(exfalso;omega)|(conv=>whnf))|(refine RdP.at (by assumption) ?_ rfl ?_;omega;conv=>whnf)|(refine AKM.x ?_;conv=>whnf)))
  refine OpP.sh4 (by omega) ?_
  (conv=>whnf)
  skip
  refine OpP.or4 s f1 p4 (by omega) ?_
  (conv=>whnf)
  (repeat' (first|(refine Req.go ?_ ?_;omega;conv=>whnf)|fail))
  refine StR.dig (by omega) ?_
  (conv=>whnf)
  (repeat' (refine ConvP.u64 ?_ ?_;omega;conv=>whnf))
  refine OpP.sh8 (by omega) f4 ?_
  (conv=>whnf)
  (repeat' (first|(refine OpP.add ?_ ?_;omega;conv=>whnf)|(refine OpP.nshr32 ?_;conv=>whnf)|(refine ConvP.n32i ?_ ?_;omega;conv=>whnf)))
  rw[←shHi_def]
  refine AKM.back [] (by (conv=>whnf);exact ⟨rfl,rfl,rfl⟩) (ih (i+1) _ _ (by omega) ⟨by omega,by simpa using p2,p3.set _ (by omega),f2,?_⟩)
  rw[val_set_take (by omega),val_take_succ hd,Nat.pow_succ]
  exact lift_step p5
 ·obtain rfl:i=a.length:=by omega
  clear ih
  (repeat' (first|(refine CmpP.go (fun hc => ?_) (fun hc => ?_)<;>first|(exfalso;omega)|(conv=>whnf))|(refine Req.go ?_ ?_;omega;conv=>whnf)|(refine LenP.go ?_;conv=>whnf)|(refine AKM.x ?_;conv=>whnf)))
  ·refine StR.dig (by omega) ?_
   (conv=>whnf)
   skip
   refine ⟨_,?_,_,lift_end2 p3 (by omega) (by omega) p5,by simpa using p2,rfl⟩
   (conv=>whnf)
   refine SnR.all (enc:=e32) (fun _=>rfl) rfl (by simp [p2]) ?_
   (conv=>whnf)
   exact FinP.go rfl (by simp only[Clean,true_and];exact cl_dig _)
  ·refine ⟨_,?_,_,lift_end p3 (by omega) p5,p2,rfl⟩
   (conv=>whnf)
   refine SnR.all (enc:=e32) (fun _=>rfl) rfl (by simp [p2]) ?_
   (conv=>whnf)
   exact FinP.go rfl (by simp only[Clean,true_and];exact cl_dig _)
theorem ev_nat_lower (N:NatGLib L) (a:List Nat) (q:Bool) (s:Nat) (hA:Dig a) (hs:s≤31) (la:a.length≤1099511627776) : ∃ r,Ev L 72 [.sl q (a.map e32),.int .u64 (s:Int)] r ∧ ∃ o,Dig o∧o.length=a.length∧val o=val a/2^s∧r = .sl false (o.map e32):=by
 refine Ev.xE N.nat_lower rfl rfl ?_
 (repeat' (first|(refine LenP.go ?_;conv=>whnf)|(refine AKM.x ?_;conv=>whnf)))
 refine MkR.go (enc:=e32) 0 a.length rfl rfl (by omega) ?_
 (conv=>whnf)
 (repeat' (first|(refine OpP.sub ?_ ?_;omega;conv=>whnf)|(refine LenP.go ?_;conv=>whnf)))
 refine AKM.loop3 (fun n _ _=>n) (fun (n:Nat) (o:List Nat) (hi:Nat)=>n≤a.length∧o.length=a.length∧Dig o∧hi=val (a.drop n)%2^s*2^(32-s)∧val (o.drop n)=val (a.drop n)/2^s) (fun n o hi=>[(6,.int .u32 (hi:Int)),(7,.int .i64 ((n:Int)-1))]) (fun n o hi=>[(10,10,.rw 1 (o.map e32))]) [] [] a.length (List.replicate a.length 0) 0 (by (conv=>whnf);exact ⟨rfl,rfl,rfl⟩) ⟨by omega,by simp,dig_zeros _,by rw[List.drop_of_length_le (Nat.le_refl _)];simp [val],by rw[List.drop_of_length_le (Nat.le_refl _),List.drop_of_length_le (by simp)];simp [val]⟩ ?_
 intro n o hi ⟨p1,p2,p3,p4,p5⟩ ih
 rcases n with _|n
 ·(repeat' (first|(refine CmpP.go (fun hc => ?_) (fun hc => ?_)<;>first|(exfalso;omega)|(conv=>whnf))|(refine AKM.x ?_;conv=>whnf)))
  rw[List.drop_zero,List.drop_zero]at p5
  refine ⟨_,?_,_,p3,p2,p5,rfl⟩
  (conv=>whnf)
  refine SnR.all (enc:=e32) (fun _=>rfl) rfl p2.symm ?_
  (conv=>whnf)
  exact FinP.go rfl (by simp only[Clean,true_and];exact cl_dig _)
 ·have e1:((n+1:Nat):Int)-1=n:=by omega
  rw[e1]
  obtain ⟨d,hd⟩ : ∃ d,a[n]? = some d:=⟨_,List.getElem?_eq_getElem (by omega)⟩
  have hdb:=hA.at hd
  obtain ⟨f1,f2,f3⟩:=lower_facts (V:=val (a.drop (n+1))) hdb (show s≤32 by omega)
  obtain ⟨g1,g2,g3,g4⟩:=sh_facts hdb (show 32-s≤32 by omega)
  rw[←p4]at f2 f3
  (repeat' (first|(refine CmpP.go (fun hc => ?_) (fun hc => ?_)<;>first|(exfalso;omega)|(conv=>whnf))|(refine RdP.at (by assumption) ?_ rfl ?_;omega;conv=>whnf)|(refine AKM.x ?_;conv=>whnf)))
  refine OpP.sr4 (by omega) ?_
  (conv=>whnf)
  skip
  refine OpP.or4r (32-s) f2 f1 (by omega) ?_
  (conv=>whnf)
  (repeat' (first|(refine Req.go ?_ ?_;omega;conv=>whnf)|fail))
  refine StR.dig (by omega) ?_
  (conv=>whnf)
  (repeat' (first|(refine OpP.nsubw ?_ ?_;omega;conv=>whnf)|(refine ConvP.u64 ?_ ?_;omega;conv=>whnf)|(refine RdP.at (by assumption) ?_ rfl ?_;omega;conv=>whnf)))
  rw[show w64s 32 s=32-s by rw[w64s_def];omega]
  refine OpP.sh8 (by omega) g4 ?_
  (conv=>whnf)
  (repeat' (first|(refine OpP.sub ?_ ?_;omega;conv=>whnf)|(refine ConvP.n32 ?_;conv=>whnf)))
  rw[lower_high (by omega)]
  refine AKM.back [] (by (conv=>whnf);exact ⟨rfl,rfl,rfl⟩) (ih n _ _ (by omega) ⟨by omega,by simpa using p2,p3.set _ (by omega),?_,?_⟩)
  ·rw[val_getD_drop hd,lower_mod (by omega)]
  ·rw[val_getD_drop (l:=o.set n (d/2^s+hi)) (d:=d/2^s+hi) (by rw[List.getElem?_set_self (by omega)]),List.drop_set_of_lt (by omega),p5,val_getD_drop hd,lower_step (by omega),←p4]
theorem len_tab : ∀ n<256,(List.replicate 1 0++List.replicate 1 1++List.replicate 2 2++List.replicate 4 3++List.replicate 8 4++List.replicate 16 5++List.replicate 32 6++List.replicate 64 7++List.replicate 128 8)[n]? = some (blen n):=by decide +kernel
theorem ev_Len32 (N:NatGLib L) (x:Nat) (hx:x<4294967296):Ev L 63 [.int .u32 (x:Int)] (.int .i64 (blen x:Int)):=by
 have hbl : ∀ y<256,blen y≤8:=fun y h=>blen_le (k:=8) h
 refine Ev.x N.math_bits_Len32 rfl rfl ?_
 (repeat' (first|(refine CmpP.go (fun hc => ?_) (fun hc => ?_)<;>first|(exfalso;omega)|(conv=>whnf))|(refine OpP.add ?_ ?_;omega;conv=>whnf)|(refine OpP.nshr16 ?_;conv=>whnf)|(refine OpP.nshr8 ?_;conv=>whnf)|(refine ConvP.n8 ?_ ?_;omega;conv=>whnf)|(refine AKM.x ?_;conv=>whnf)))
 ·have hb8:=hbl (x/65536/256) (by omega)
  refine TbP.go (len_tab _ (by omega)) ?_
  (conv=>whnf)
  (repeat' (first|(refine OpP.add ?_ ?_;omega;conv=>whnf)|(refine ConvP.i64 ?_ ?_;omega;conv=>whnf)))
  have h1:blen (x/65536)+16=blen x:=blen_div 16 (x:=x) (by omega)
  have h2:blen (x/65536/256)+8=blen (x/65536):=blen_div 8 (x:=x/65536) (by omega)
  refine FinP.i ?_
  rw[←h1,←h2]
  omega
 ·have hb8:=hbl (x/65536) (by omega)
  refine TbP.go (len_tab _ (by omega)) ?_
  (conv=>whnf)
  (repeat' (first|(refine OpP.add ?_ ?_;omega;conv=>whnf)|(refine ConvP.i64 ?_ ?_;omega;conv=>whnf)))
  have h1:blen (x/65536)+16=blen x:=blen_div 16 (x:=x) (by omega)
  refine FinP.i ?_
  rw[←h1]
  omega
 ·have hb8:=hbl (x/256) (by omega)
  refine TbP.go (len_tab _ (by omega)) ?_
  (conv=>whnf)
  (repeat' (first|(refine OpP.add ?_ ?_;omega;conv=>whnf)|(refine ConvP.i64 ?_ ?_;omega;conv=>whnf)))
  have h2:blen (x/256)+8=blen x:=blen_div 8 (x:=x) (by omega)
  refine FinP.i ?_
  rw[←h2]
  omega
 ·have hb8:=hbl (x) (by omega)
  refine TbP.go (len_tab _ (by omega)) ?_
  (conv=>whnf)
  (repeat' (first|(refine OpP.add ?_ ?_;omega;conv=>whnf)|(refine ConvP.i64 ?_ ?_;omega;conv=>whnf)))
  refine FinP.i ?_
  omega
theorem ev_LZ32 (N:NatGLib L) (x:Nat) (hx:x<4294967296):Ev L 64 [.int .u32 (x:Int)] (.int .i64 ((32-blen x:Nat):Int)):=by
 have h:=blen_le (k:=32) hx
 refine Ev.x N.math_bits_LeadingZeros32 rfl rfl ?_
 (repeat' (first|(refine OpP.sub ?_ ?_;omega;conv=>whnf)|(refine AKM.x ?_;conv=>whnf)|(refine CallP.go (ev_Len32 N x hx) ?_;conv=>whnf)))
 refine FinP.i ?_
 omega
end Go.Eng

namespace Go.Eng
open F
attribute [local irreducible] AKM CmpP Req OpP UnP ConvP RdP LdR StR MkR LenP AppR AppN CpyR RowP SnR Bds SlS CallP CalP FinP pw LdM GetM SetM PutM MkM AppM SnM FlP CallR
set_option maxHeartbeats 4000000
variable {L:Lib}
theorem cl_sl (l:List Nat):Clean (.sl false (l.map e32)):=by
 simp only[Clean,true_and];exact cl_dig l
theorem ev_r1_Trim (N:RefGLib L) (l:List Nat) (q:Bool) (hD:Dig l) (hl:l.length≤1099511627776):Ev L 101 [.sl q (l.map e32)] (.sl false ((dg (val l)).map e32)):=by
 refine Ev.x N.ref01_Trim rfl rfl ?_
 (repeat' (first|(refine LenP.go ?_;conv=>whnf)|(refine AKM.x ?_;conv=>whnf)))
 refine AKM.loop1 (fun n=>n) (fun (n:Nat)=>n≤l.length ∧ ∀ i,n≤i→i<l.length→l[i]? = some 0) (fun n=>[(3,.int .i64 n)]) (fun _=>[]) [] [] l.length (by (conv=>whnf);exact ⟨rfl,rfl,rfl⟩) ⟨Nat.le_refl _,fun i h1 h2=>by omega⟩ ?_
 intro n ⟨p1,p2⟩ ih
 rcases n with _|n
 ·have hv:=cut_found hD p1 p2 (Or.inl rfl)
  rw[←hv]
  clear ih
  (repeat' (first|(refine CmpP.go (fun hc => ?_) (fun hc => ?_)<;>first|(exfalso;omega)|(conv=>whnf))|(refine AKM.x ?_;conv=>whnf)))
  refine SlS.to (k:=0) (fun _=>rfl) (by omega) ?_
  (conv=>whnf)
  refine AppN.many (enc:=e32) (fun _=>rfl) (by rw[List.length_take];omega) (by rw[List.length_take];omega) ?_
  (conv=>whnf)
  (repeat' (refine SnR.all (fun _=>rfl) rfl ?_ ?_;(first|rfl|simp);conv=>whnf))
  exact FinP.go rfl (cl_sl _)
 ·have e1:((n+1:Nat):Int)-1=n:=by omega
  (repeat' (first|(refine CmpP.go (fun hc => ?_) (fun hc => ?_)<;>first|(exfalso;omega)|(conv=>whnf))|(refine OpP.sub ?_ ?_;omega;conv=>whnf)|(refine RdP.digi (by assumption) ?_ (fun e he hb => ?_);omega;conv=>whnf)|(refine AKM.x ?_;conv=>whnf)))
  ·rw[e1]
   exact AKM.back [] (by (conv=>whnf);exact ⟨rfl,rfl,rfl⟩) (ih n (by omega) ⟨by omega,fun i h1 h2=>by
    by_cases h:i=n
    ·subst h
     rw[e1,Int.toNat_natCast]at he
     rw[he];congr 1;omega
    ·exact p2 i (by omega) h2⟩)
  ·rw[e1,Int.toNat_natCast]at he
   have hv:=cut_found hD p1 p2 (Or.inr ⟨e,he,by omega⟩)
   rw[←hv]
   clear ih
   refine SlS.to (k:=n+1) (fun _=>rfl) (by omega) ?_
   (conv=>whnf)
   refine AppN.many (enc:=e32) (fun _=>rfl) (by rw[List.length_take];omega) (by rw[List.length_take];omega) ?_
   (conv=>whnf)
   (repeat' (refine SnR.all (fun _=>rfl) rfl ?_ ?_;(first|rfl|simp);conv=>whnf))
   exact FinP.go rfl (cl_sl _)
theorem ev_r1_Compare (N:RefGLib L) (a b:List Nat) (q1 q2:Bool) (hA:Dig a) (hB:Dig b) (la:a.length≤1099511627776) (lb:b.length≤1099511627776):Ev L 102 [.sl q1 (a.map e32),.sl q2 (b.map e32)] (.int .i64 (cmpS (val a) (val b))):=by
 have t1:=fun q=>ev_r1_Trim N a q hA la
 have t2:=fun q=>ev_r1_Trim N b q hB lb
 have l1:=dg_len_val hA
 have l2:=dg_len_val hB
 have d1:=dig_dg (val a)
 have d2:=dig_dg (val b)
 refine Ev.x N.ref01_Compare rfl rfl ?_
 by_cases hlen:(dg (val a)).length=(dg (val b)).length
 ·have v1:=val_dg (val a)
  have v2:=val_dg (val b)
  generalize dg (val a)=X at *
  generalize dg (val b)=Y at *
  (repeat' (first|(refine CmpP.go (fun hc => ?_) (fun hc => ?_)<;>first|(exfalso;omega)|(conv=>whnf))|(refine OpP.sub ?_ ?_;omega;conv=>whnf)|(refine LenP.go ?_;conv=>whnf)|(refine AKM.x ?_;conv=>whnf)|(refine CallP.go (t1 _) ?_;conv=>whnf)|(refine CallP.go (t2 _) ?_;conv=>whnf)))
  refine AKM.loop1 (fun n=>n) (fun (n:Nat)=>n≤X.length∧X.drop n=Y.drop n) (fun n=>[(5,.int .i64 ((n:Int)-1))]) (fun _=>[]) [] [] X.length (by (conv=>whnf);exact ⟨rfl,rfl,rfl⟩) ⟨Nat.le_refl _,by rw[List.drop_of_length_le (Nat.le_refl _),List.drop_of_length_le (by omega)]⟩ ?_
  intro n ⟨p1,p2⟩ ih
  rcases n with _|n
  ·(repeat' (first|(refine CmpP.go (fun hc => ?_) (fun hc => ?_)<;>first|(exfalso;omega)|(conv=>whnf))|(refine AKM.x ?_;conv=>whnf)))
   rw[List.drop_zero,List.drop_zero]at p2
   exact FinP.i (cmpS_eq (by rw[←v1,←v2,p2]))
  ·have e1:((n+1:Nat):Int)-1=n:=by omega
   rw[e1]
   obtain ⟨x,hx⟩ : ∃ x,X[n]? = some x:=⟨_,List.getElem?_eq_getElem (by omega)⟩
   obtain ⟨y,hy⟩ : ∃ y,Y[n]? = some y:=⟨_,List.getElem?_eq_getElem (by omega)⟩
   rcases Nat.lt_trichotomy x y with h|h|h
   ·have:=val_lt_of_drop d1 d2 hlen hx hy p2 h
    (repeat' (first|(refine CmpP.go (fun hc => ?_) (fun hc => ?_)<;>first|(exfalso;omega)|(conv=>whnf))|(refine RdP.at (by assumption) ?_ rfl ?_;omega;conv=>whnf)|(refine AKM.x ?_;conv=>whnf)))
    exact FinP.i (cmpS_lt (by omega))
   ·subst h
    (repeat' (first|(refine CmpP.go (fun hc => ?_) (fun hc => ?_)<;>first|(exfalso;omega)|(conv=>whnf))|(refine OpP.sub ?_ ?_;omega;conv=>whnf)|(refine RdP.at (by assumption) ?_ rfl ?_;omega;conv=>whnf)|(refine AKM.x ?_;conv=>whnf)))
    refine AKM.back [] (by (conv=>whnf);exact ⟨rfl,rfl,rfl⟩) (ih n (by omega) ⟨by omega,?_⟩)
    obtain ⟨i1,e1⟩:=List.getElem?_eq_some_iff.1 hx
    obtain ⟨i2,e2⟩:=List.getElem?_eq_some_iff.1 hy
    rw[List.drop_eq_getElem_cons i1,List.drop_eq_getElem_cons i2,p2,e1,e2]
   ·have:=val_lt_of_drop d2 d1 hlen.symm hy hx p2.symm h
    (repeat' (first|(refine CmpP.go (fun hc => ?_) (fun hc => ?_)<;>first|(exfalso;omega)|(conv=>whnf))|(refine RdP.at (by assumption) ?_ rfl ?_;omega;conv=>whnf)|(refine AKM.x ?_;conv=>whnf)))
    exact FinP.i (cmpS_gt (by omega))
 ·rcases Nat.lt_trichotomy (dg (val a)).length (dg (val b)).length with h1|h1|h1
  ·have:=val_lt_of_len h1
   (repeat' (first|(refine CmpP.go (fun hc => ?_) (fun hc => ?_)<;>first|(exfalso;omega)|(conv=>whnf))|(refine LenP.go ?_;conv=>whnf)|(refine AKM.x ?_;conv=>whnf)|(refine CallP.go (t1 _) ?_;conv=>whnf)|(refine CallP.go (t2 _) ?_;conv=>whnf)))
   exact FinP.i (cmpS_lt (by omega))
  ·exact absurd h1 hlen
  ·have:=val_lt_of_len h1
   (repeat' (first|(refine CmpP.go (fun hc => ?_) (fun hc => ?_)<;>first|(exfalso;omega)|(conv=>whnf))|(refine LenP.go ?_;conv=>whnf)|(refine AKM.x ?_;conv=>whnf)|(refine CallP.go (t1 _) ?_;conv=>whnf)|(refine CallP.go (t2 _) ?_;conv=>whnf)))
   exact FinP.i (cmpS_gt (by omega))
theorem val_take_get {y:List Nat} (i:Nat):val (y.take (i+1))=val (y.take i)+4294967296^i*y.getD i 0:=by
 rcases Nat.lt_or_ge i y.length with h|h
 ·rw[val_take_succ (List.getElem?_eq_getElem h),getD_is (List.getElem?_eq_getElem h)]
 ·rw[←getD_none h,val_take_all h,val_take_all (by omega)];omega
theorem ev_r1_Add (N:RefGLib L) (a b:List Nat) (q1 q2:Bool) (hA:Dig a) (hB:Dig b) (la:a.length≤549755813888) (lb:b.length≤549755813888):Ev L 103 [.sl q1 (a.map e32),.sl q2 (b.map e32)] (.sl false ((dg (val a+val b)).map e32)):=by
 refine Ev.x N.ref01_Add rfl rfl ?_
 (repeat' (refine AKM.x ?_;conv=>whnf))
 refine AKM.loop3 (fun i _ _=>a.length+b.length-i) (fun (i:Nat) (o:List Nat) (c:Nat)=>(i≤a.length∨i≤b.length)∧o.length=i∧Dig o∧c≤1∧val o+4294967296^i*c=val (a.take i)+val (b.take i)) (fun i o c=>[(7,.int .i64 i),(6,.int .u64 (c:Int)),(5,.row 5 0 1 0 o.length)]) (fun i o c=>[(5,5,.rw 1 (o.map e32))]) [] [] 0 [] 0 (by (conv=>whnf);exact ⟨rfl,rfl,rfl⟩) ⟨by omega,rfl,dig_nil,by omega,by simp [val]⟩ ?_
 intro i o c ⟨p1,p2,p3,p4,p5⟩ ih
 by_cases hi:i<a.length∨i<b.length
 ·have g1:=val_take_get (y:=a) i
  have g2:=val_take_get (y:=b) i
  have k1:=getD_lt hA i
  have k2:=getD_lt hB i
  have hst : ∀ t,t=c+a.getD i 0+b.getD i 0→val (o++[t%4294967296])+4294967296^(i+1)*(t/4294967296)=val (a.take (i+1))+val (b.take (i+1)):=fun t ht=>by
   have h3:=carry_step (val o) (4294967296^i) t
   rw[val_snoc,p2,g1,g2,Nat.pow_succ]
   rw[h3,ht,Nat.mul_add,Nat.mul_add]
   omega
  by_cases h1:i<a.length
  ·obtain ⟨x,hx⟩ : ∃ x,a[i]? = some x:=⟨_,List.getElem?_eq_getElem h1⟩
   have hxb:=hA.at hx
   rw[getD_is hx]at hst
   by_cases h2:i<b.length
   ·obtain ⟨y,hy⟩ : ∃ y,b[i]? = some y:=⟨_,List.getElem?_eq_getElem h2⟩
    have hyb:=hB.at hy
    rw[getD_is hy]at hst
    (repeat' (first|(refine CmpP.go (fun hc => ?_) (fun hc => ?_)<;>first|(exfalso;omega)|(conv=>whnf))|(refine OpP.nadd ?_ ?_;omega;conv=>whnf)|(refine ConvP.u64 ?_ ?_;omega;conv=>whnf)|(refine ConvP.n32 ?_;conv=>whnf)|(refine LenP.go ?_;conv=>whnf)|(refine RdP.at (by assumption) ?_ rfl ?_;omega;conv=>whnf)|(refine RowP.e1 ?_;conv=>whnf)|(refine AKM.x ?_;conv=>whnf)))
    refine AppR.one (enc:=e32) (((c+x+y)%4294967296:Nat)) rfl rfl rfl (by omega) (by omega) ?_
    (conv=>whnf)
    (repeat' (first|(refine OpP.add ?_ ?_;omega;conv=>whnf)|(refine OpP.nshr32 ?_;conv=>whnf)))
    refine AKM.back [(5,46)] (by (conv=>whnf);exact ⟨rfl,rfl,rfl⟩) (ih (i+1) (o++[(c+x+y)%4294967296]) ((c+x+y)/4294967296) (by omega) ⟨by omega,by simp;omega,p3.append (dig_one (by omega)),by omega,?_⟩)
    exact hst (c+x+y) (by omega)
   ·rw[←getD_none (show b.length≤i by omega)]at hst
    (repeat' (first|(refine CmpP.go (fun hc => ?_) (fun hc => ?_)<;>first|(exfalso;omega)|(conv=>whnf))|(refine OpP.nadd ?_ ?_;omega;conv=>whnf)|(refine ConvP.u64 ?_ ?_;omega;conv=>whnf)|(refine ConvP.n32 ?_;conv=>whnf)|(refine LenP.go ?_;conv=>whnf)|(refine RdP.at (by assumption) ?_ rfl ?_;omega;conv=>whnf)|(refine RowP.e1 ?_;conv=>whnf)|(refine AKM.x ?_;conv=>whnf)))
    refine AppR.one (enc:=e32) (((c+x)%4294967296:Nat)) rfl rfl rfl (by omega) (by omega) ?_
    (conv=>whnf)
    (repeat' (first|(refine OpP.add ?_ ?_;omega;conv=>whnf)|(refine OpP.nshr32 ?_;conv=>whnf)))
    refine AKM.back [(5,46)] (by (conv=>whnf);exact ⟨rfl,rfl,rfl⟩) (ih (i+1) (o++[(c+x)%4294967296]) ((c+x)/4294967296) (by omega) ⟨by omega,by simp;omega,p3.append (dig_one (by omega)),by omega,?_⟩)
    exact hst (c+x) (by omega)
  ·obtain ⟨y,hy⟩ : ∃ y,b[i]? = some y:=⟨_,List.getElem?_eq_getElem (by omega)⟩
   have hyb:=hB.at hy
   rw[getD_is hy,←getD_none (show a.length≤i by omega)]at hst
   (repeat' (first|(refine CmpP.go (fun hc => ?_) (fun hc => ?_)<;>first|(exfalso;omega)|(conv=>whnf))|(refine OpP.nadd ?_ ?_;omega;conv=>whnf)|(refine ConvP.u64 ?_ ?_;omega;conv=>whnf)|(refine ConvP.n32 ?_;conv=>whnf)|(refine LenP.go ?_;conv=>whnf)|(refine RdP.at (by assumption) ?_ rfl ?_;omega;conv=>whnf)|(refine RowP.e1 ?_;conv=>whnf)|(refine AKM.x ?_;conv=>whnf)))
   refine AppR.one (enc:=e32) (((c+y)%4294967296:Nat)) rfl rfl rfl (by omega) (by omega) ?_
   (conv=>whnf)
   (repeat' (first|(refine OpP.add ?_ ?_;omega;conv=>whnf)|(refine OpP.nshr32 ?_;conv=>whnf)))
   refine AKM.back [(5,46)] (by (conv=>whnf);exact ⟨rfl,rfl,rfl⟩) (ih (i+1) (o++[(c+y)%4294967296]) ((c+y)/4294967296) (by omega) ⟨by omega,by simp;omega,p3.append (dig_one (by omega)),by omega,?_⟩)
   exact hst (c+y) (by omega)
 ·clear ih
  have hv:val (o++[c])=val a+val b:=by
   rw[val_take_all (by omega),val_take_all (by omega)]at p5
   rw[val_snoc,p2,p5]
  have hT:=fun q=>ev_r1_Trim N (o++[c]) q (p3.append (dig_one (by omega))) (by simp;omega)
  rw[hv]at hT
  (repeat' (first|(refine CmpP.go (fun hc => ?_) (fun hc => ?_)<;>first|(exfalso;omega)|(conv=>whnf))|(refine ConvP.n32i ?_ ?_;omega;conv=>whnf)|(refine LenP.go ?_;conv=>whnf)|(refine RowP.e1 ?_;conv=>whnf)|(refine AKM.x ?_;conv=>whnf)))
  refine AppR.one (enc:=e32) c rfl rfl rfl (by omega) (by omega) ?_
  (conv=>whnf)
  (repeat' (first|(refine SnR.all (fun _=>rfl) rfl ?_ ?_;(first|rfl|simp);conv=>whnf)|(refine CallP.go (hT _) ?_;conv=>whnf)))
  exact FinP.go rfl (cl_sl _)
theorem cmpS_ge {a b:Nat} (h:b≤a):0≤cmpS a b:=by unfold cmpS;split<;>(try split)<;>omega
theorem rsub_step {V Y X p d e bw have' take w bw':Nat} (h:V+Y=X+p*bw) (h1:take=bw+e) (h2:(have'=d∧bw'=0∧take≤d)∨(have'=d+4294967296∧bw'=1∧d<take)) (h3:w+take=have'):V+p*w+(Y+p*e)=X+p*d+p*4294967296*bw':=by
 have h4:w+bw+e=d+4294967296*bw':=by omega
 have h5:p*(w+bw+e)=p*(d+4294967296*bw'):=by rw[h4]
 rw[Nat.mul_add,Nat.mul_add,Nat.mul_add,←Nat.mul_assoc]at h5
 omega
theorem r1_sub_main (N:RefGLib L) (x y:List Nat) (hX:Dig x) (hY:Dig y) (lx:x.length≤549755813888) (ly:y.length≤549755813888) (hle:val y≤val x) :
  AKM L [It.lp ref01_Sub.l1,It.blk 0,It.code (((ACode.ops ref01_Sub.r18 false).dr [1,5,6,7,21,53,54] []).seq ACode.ret)]
  [(7,AV.int IntKind.i64 0),(6,AV.int IntKind.u64 0),(5,AV.row 101021 0 1 0 x.length),(1,AV.sl false (List.map e32 y))]
  [(101021,101021,Cel.rw 1 (List.map e32 x))]
  (RetX ref01_Sub (AV.sl false (List.map e32 (dg (val x-val y))))):=by
 refine AKM.loop3 (fun i _ _=>x.length-i) (fun (i:Nat) (o:List Nat) (bw:Nat)=>i≤x.length∧o.length=x.length∧Dig o∧bw≤1∧o.drop i=x.drop i∧val (o.take i)+val (y.take i)=val (x.take i)+4294967296^i*bw) (fun i o bw=>[(7,.int .i64 i),(6,.int .u64 (bw:Int))]) (fun i o bw=>[(101021,101021,.rw 1 (o.map e32))]) [] [] 0 x 0 (by (conv=>whnf);exact ⟨rfl,rfl,rfl⟩) ⟨by omega,rfl,hX,by omega,rfl,by simp [val]⟩ ?_
 intro i o bw ⟨p1,p2,p3,p4,p5,p6⟩ ih
 by_cases hi:i<x.length
 ·obtain ⟨d,hd⟩ : ∃ d,o[i]? = some d:=⟨_,List.getElem?_eq_getElem (by omega)⟩
  have hdb:=p3.at hd
  have hxi:x[i]? = some d:=by
   have e1:(o.drop i)[0]? = (x.drop i)[0]? := by rw[p5]
   simpa [hd] using e1.symm
  have g1:=val_take_succ hxi
  have g2:=val_take_get (y:=y) i
  have ge:=getD_lt hY i
  have hst : ∀ have' take w bw',take=bw+y.getD i 0→((have'=d∧bw'=0∧take≤d)∨(have'=d+4294967296∧bw'=1∧d<take))→w+take=have'→val ((o.set i w).take (i+1))+val (y.take (i+1))=val (x.take (i+1))+4294967296^(i+1)*bw':=fun have' take w bw' a1 a2 a3=>by
   rw[val_set_take (by omega),g1,g2,Nat.pow_succ]
   exact rsub_step p6 a1 a2 a3
  have hdr : ∀ w,(o.set i w).drop (i+1)=x.drop (i+1):=fun w=>by
   rw[List.drop_set_of_lt (by omega)]
   have e1:(o.drop i).drop 1=(x.drop i).drop 1:=by rw[p5]
   simpa using e1
  by_cases hy:i<y.length
  ·obtain ⟨e,he⟩ : ∃ e,y[i]? = some e:=⟨_,List.getElem?_eq_getElem hy⟩
   have heb:=hY.at he
   rw[getD_is he]at hst
   by_cases hlt:d<bw+e
   ·have h3:=hst (d+4294967296) (bw+e) (d+4294967296-(bw+e)) 1 (by omega) (Or.inr ⟨rfl,rfl,hlt⟩) (by omega)
    (repeat' (first|(refine CmpP.go (fun hc => ?_) (fun hc => ?_)<;>first|(exfalso;omega)|(conv=>whnf))|(refine Req.go ?_ ?_;omega;conv=>whnf)|(refine OpP.nadd ?_ ?_;omega;conv=>whnf)|(refine OpP.nsub ?_ ?_ ?_;omega;omega;conv=>whnf)|(refine OpP.naddB ?_ ?_;omega;conv=>whnf)|(refine ConvP.u64 ?_ ?_;omega;conv=>whnf)|(refine ConvP.n32i ?_ ?_;omega;conv=>whnf)|(refine LenP.go ?_;conv=>whnf)|(refine RdP.at (by assumption) ?_ rfl ?_;omega;conv=>whnf)|(refine LdR.dat (by assumption) ?_;conv=>whnf)|(refine AKM.x ?_;conv=>whnf)))
    refine StR.dig (by omega) ?_
    (conv=>whnf)
    (repeat' (refine OpP.add ?_ ?_;omega;conv=>whnf))
    exact AKM.back [] (by (conv=>whnf);exact ⟨rfl,rfl,rfl⟩) (ih (i+1) (o.set i (d+4294967296-(bw+e))) 1 (by omega) ⟨by omega,by simpa using p2,p3.set _ (by omega),by omega,hdr _,h3⟩)
   ·have h3:=hst d (bw+e) (d-(bw+e)) 0 (by omega) (Or.inl ⟨rfl,rfl,by omega⟩) (by omega)
    (repeat' (first|(refine CmpP.go (fun hc => ?_) (fun hc => ?_)<;>first|(exfalso;omega)|(conv=>whnf))|(refine Req.go ?_ ?_;omega;conv=>whnf)|(refine OpP.nadd ?_ ?_;omega;conv=>whnf)|(refine OpP.nsub ?_ ?_ ?_;omega;omega;conv=>whnf)|(refine ConvP.u64 ?_ ?_;omega;conv=>whnf)|(refine ConvP.n32i ?_ ?_;omega;conv=>whnf)|(refine LenP.go ?_;conv=>whnf)|(refine RdP.at (by assumption) ?_ rfl ?_;omega;conv=>whnf)|(refine LdR.dat (by assumption) ?_;conv=>whnf)|(refine AKM.x ?_;conv=>whnf)))
    refine StR.dig (by omega) ?_
    (conv=>whnf)
    (repeat' (refine OpP.add ?_ ?_;omega;conv=>whnf))
    exact AKM.back [] (by (conv=>whnf);exact ⟨rfl,rfl,rfl⟩) (ih (i+1) (o.set i (d-(bw+e))) 0 (by omega) ⟨by omega,by simpa using p2,p3.set _ (by omega),by omega,hdr _,h3⟩)
  ·rw[←getD_none (show y.length≤i by omega)]at hst
   by_cases hlt:d<bw
   ·have h3:=hst (d+4294967296) (bw) (d+4294967296-(bw)) 1 (by omega) (Or.inr ⟨rfl,rfl,hlt⟩) (by omega)
    (repeat' (first|(refine CmpP.go (fun hc => ?_) (fun hc => ?_)<;>first|(exfalso;omega)|(conv=>whnf))|(refine Req.go ?_ ?_;omega;conv=>whnf)|(refine OpP.nsub ?_ ?_ ?_;omega;omega;conv=>whnf)|(refine OpP.naddB ?_ ?_;omega;conv=>whnf)|(refine ConvP.u64 ?_ ?_;omega;conv=>whnf)|(refine ConvP.n32i ?_ ?_;omega;conv=>whnf)|(refine LenP.go ?_;conv=>whnf)|(refine LdR.dat (by assumption) ?_;conv=>whnf)|(refine AKM.x ?_;conv=>whnf)))
    refine StR.dig (by omega) ?_
    (conv=>whnf)
    (repeat' (refine OpP.add ?_ ?_;omega;conv=>whnf))
    exact AKM.back [] (by (conv=>whnf);exact ⟨rfl,rfl,rfl⟩) (ih (i+1) (o.set i (d+4294967296-(bw))) 1 (by omega) ⟨by omega,by simpa using p2,p3.set _ (by omega),by omega,hdr _,h3⟩)
   ·have h3:=hst d (bw) (d-(bw)) 0 (by omega) (Or.inl ⟨rfl,rfl,by omega⟩) (by omega)
    (repeat' (first|(refine CmpP.go (fun hc => ?_) (fun hc => ?_)<;>first|(exfalso;omega)|(conv=>whnf))|(refine Req.go ?_ ?_;omega;conv=>whnf)|(refine OpP.nsub ?_ ?_ ?_;omega;omega;conv=>whnf)|(refine ConvP.u64 ?_ ?_;omega;conv=>whnf)|(refine ConvP.n32i ?_ ?_;omega;conv=>whnf)|(refine LenP.go ?_;conv=>whnf)|(refine LdR.dat (by assumption) ?_;conv=>whnf)|(refine AKM.x ?_;conv=>whnf)))
    refine StR.dig (by omega) ?_
    (conv=>whnf)
    (repeat' (refine OpP.add ?_ ?_;omega;conv=>whnf))
    exact AKM.back [] (by (conv=>whnf);exact ⟨rfl,rfl,rfl⟩) (ih (i+1) (o.set i (d-(bw))) 0 (by omega) ⟨by omega,by simpa using p2,p3.set _ (by omega),by omega,hdr _,h3⟩)
 ·obtain rfl:i=x.length:=by omega
  clear ih
  rw[val_take_all (by omega),val_take_all (Nat.le_refl _)]at p6
  have h1:=val_lt p3
  rw[p2]at h1
  have h2:val (y.take x.length)≤val y:=by have:=val_splitD y x.length;omega
  have hb0:bw=0:=by
   rcases Nat.eq_zero_or_pos bw with h|h
   ·exact h
   ·have:bw=1:=by omega
    subst this
    omega
  subst hb0
  have hve:val (y.take x.length)=val y:=by
   have h3:=val_splitD y x.length
   rcases Nat.eq_zero_or_pos (val (y.drop x.length)) with h|h
   ·rw[h]at h3;omega
   ·have h4:4294967296^x.length*1≤4294967296^x.length*val (y.drop x.length):=Nat.mul_le_mul_left _ h
    have h5:=val_lt hX
    omega
  have hv:val o=val x-val y:=by omega
  have hT:=fun q=>ev_r1_Trim N o q p3 (by omega)
  rw[←hv,←p2]
  (repeat' (first|(refine CmpP.go (fun hc => ?_) (fun hc => ?_)<;>first|(exfalso;omega)|(conv=>whnf))|(refine SnR.all (fun _=>rfl) rfl ?_ ?_;(first|rfl|simp);conv=>whnf)|(refine AKM.x ?_;conv=>whnf)|(refine CallP.go (hT _) ?_;conv=>whnf)))
  exact FinP.go rfl (cl_sl _)
theorem ev_r1_Sub (N:RefGLib L) (a b:List Nat) (q1 q2:Bool) (hA:Dig a) (hB:Dig b) (la:a.length≤549755813888) (lb:b.length≤549755813888):Ev L 104 [.sl q1 (a.map e32),.sl q2 (b.map e32)] (.sl false ((dg (val a-val b)).map e32)):=by
 have hcmp:=fun q q'=>ev_r1_Compare N a b q q' hA hB (by omega) (by omega)
 have t2:=fun q=>ev_r1_Trim N b q hB (by omega)
 refine Ev.x N.ref01_Sub rfl rfl ?_
 by_cases hlt:val a<val b
 ·rw[←cmpS_lt (by omega)]at hcmp
  rw[show val a-val b=0 by omega,dg_zero]
  (repeat' (first|(refine CmpP.go (fun hc => ?_) (fun hc => ?_)<;>first|(exfalso;omega)|(conv=>whnf))|(refine AKM.x ?_;conv=>whnf)|(refine CallP.go (hcmp _ _) ?_;conv=>whnf)))
  exact FinP.go rfl (cl_sl [])
 ·have hge:=cmpS_ge (show val b≤val a by omega)
  generalize cmpS (val a) (val b)=cm at *
  have d2:=dig_dg (val b)
  have v2:=val_dg (val b)
  have l2:=dg_len_val hB
  rw[←v2]
  rw[←v2]at hlt
  generalize dg (val b)=y at *
  have hdg : ∀ n,a.take n=dg (val a)→val (a.take n)=val a:=fun n h=>by rw[h,val_dg]
  (repeat' (first|(refine CmpP.go (fun hc => ?_) (fun hc => ?_)<;>first|(exfalso;omega)|(conv=>whnf))|(refine AKM.x ?_;conv=>whnf)|(refine CallP.go (hcmp _ _) ?_;conv=>whnf)|(refine CallP.go (t2 _) ?_;conv=>whnf)))
  refine CalP.walk 1000 N.ref01_Trim rfl rfl ?_
  (repeat' (first|(refine LenP.go ?_;conv=>whnf)|(refine AKM.x ?_;conv=>whnf)))
  refine AKM.loop1 (fun n=>n) (fun (n:Nat)=>n≤a.length ∧ ∀ i,n≤i→i<a.length→a[i]? = some 0) (fun n=>[(3,.int .i64 n)]) (fun _=>[]) [] [] a.length (by (conv=>whnf);exact ⟨rfl,rfl,rfl⟩) ⟨Nat.le_refl _,fun i h1 h2=>by omega⟩ ?_
  intro n ⟨p1,p2⟩ ih
  rcases n with _|n
  ·have hv:=hdg _ (cut_found hA p1 p2 (Or.inl rfl))
   clear ih
   (repeat' (first|(refine CmpP.go (fun hc => ?_) (fun hc => ?_)<;>first|(exfalso;omega)|(conv=>whnf))|(refine AKM.x ?_;conv=>whnf)))
   refine SlS.to (k:=0) (fun _=>rfl) (by omega) ?_
   (conv=>whnf)
   refine AppN.many (enc:=e32) (fun _=>rfl) (by rw[List.length_take];omega) (by rw[List.length_take];omega) ?_
   (conv=>whnf)
   refine ⟨rfl,_,rfl,?_⟩
   (conv=>whnf)
   skip
   rw[←hv]
   exact AKM.back [] (by (conv=>whnf);exact ⟨rfl,rfl,rfl⟩) (r1_sub_main N (a.take 0) y (hA.take _) d2 (by simp) (by omega) (by omega))
  ·have e1:((n+1:Nat):Int)-1=n:=by omega
   (repeat' (first|(refine CmpP.go (fun hc => ?_) (fun hc => ?_)<;>first|(exfalso;omega)|(conv=>whnf))|(refine OpP.sub ?_ ?_;omega;conv=>whnf)|(refine RdP.digi (by assumption) ?_ (fun e he hb => ?_);omega;conv=>whnf)|(refine AKM.x ?_;conv=>whnf)))
   ·rw[e1]
    exact AKM.back [] (by (conv=>whnf);exact ⟨rfl,rfl,rfl⟩) (ih n (by omega) ⟨by omega,fun i h1 h2=>by
     by_cases h:i=n
     ·subst h
      rw[e1,Int.toNat_natCast]at he
      rw[he];congr 1;omega
     ·exact p2 i (by omega) h2⟩)
   ·rw[e1,Int.toNat_natCast]at he
    have hv:=hdg _ (cut_found hA p1 p2 (Or.inr ⟨_,he,by omega⟩))
    clear ih
    refine SlS.to (k:=n+1) (fun _=>rfl) (by omega) ?_
    (conv=>whnf)
    refine AppN.many (enc:=e32) (fun _=>rfl) (by rw[List.length_take];omega) (by rw[List.length_take];omega) ?_
    (conv=>whnf)
    refine ⟨rfl,_,rfl,?_⟩
    (conv=>whnf)
    skip
    rw[←hv]
    exact AKM.back [] (by (conv=>whnf);exact ⟨rfl,rfl,rfl⟩) (r1_sub_main N (a.take (n+1)) y (hA.take _) d2 (by rw[List.length_take];omega) (by omega) (by omega))
theorem ev_r1_Mul (N:RefGLib L) (x y:List Nat) (q1 q2:Bool) (hA:Dig x) (hB:Dig y) (lab:x.length+y.length≤549755813888):Ev L 105 [.sl q1 (x.map e32),.sl q2 (y.map e32)] (.sl false ((dg (val x*val y)).map e32)):=by
 refine Ev.x N.ref01_Mul rfl rfl ?_
 (repeat' (first|(refine OpP.add ?_ ?_;omega;conv=>whnf)|(refine LenP.go ?_;conv=>whnf)|(refine AKM.x ?_;conv=>whnf)))
 refine MkR.go (enc:=e32) 0 (x.length+y.length+1) rfl (by omega) (by omega) ?_
 (conv=>whnf)
 skip
 refine AKM.loop2 (fun i _=>x.length-i) (fun (i:Nat) (o:List Nat)=>i≤x.length∧o.length=x.length+y.length+1∧Dig o∧val o=val (x.take i)*val y ∧ ∀ k,i+y.length≤k→k<o.length→o[k]? = some 0) (fun i o=>[(6,.int .i64 i)]) (fun i o=>[(15,15,.rw 1 (o.map e32))]) [] [] 0 (List.replicate (x.length+y.length+1) 0) (by (conv=>whnf);exact ⟨rfl,rfl,rfl⟩) ⟨by omega,by simp,dig_zeros _,by simp [val,val_zeros],fun k h1 h2=>by simp at h2;simp [h2]⟩ ?_
 intro i O ⟨p1,p2,p3,p4,p5⟩ ih
 by_cases hi:i<x.length
 ·obtain ⟨d,hd⟩ : ∃ d,x[i]? = some d:=⟨_,List.getElem?_eq_getElem hi⟩
  have hdb:=hA.at hd
  (repeat' (first|(refine CmpP.go (fun hc => ?_) (fun hc => ?_)<;>first|(exfalso;omega)|(conv=>whnf))|(refine LenP.go ?_;conv=>whnf)|(refine AKM.x ?_;conv=>whnf)))
  refine AKM.loop3 (fun j _ _=>y.length-j) (fun (j:Nat) (o:List Nat) (c:Nat)=>j≤y.length∧o.length=x.length+y.length+1∧Dig o∧c<4294967296∧val o+4294967296^(i+j)*c=val O+4294967296^i*(d*val (y.take j)) ∧ ∀ k,i+j≤k→o[k]? = O[k]?) (fun j o c=>[(7,.int .u64 (c:Int)),(8,.int .i64 j)]) (fun j o c=>[(15,15,.rw 1 (o.map e32))]) [] [] 0 O 0 (by (conv=>whnf);exact ⟨rfl,rfl,rfl⟩) ⟨by omega,p2,p3,by omega,by simp [val],fun _ _=>rfl⟩ ?_
  intro j o c ⟨r1,r2,r3,r4,r5,r6⟩ jh
  have e1:((i:Int)+j).toNat=i+j:=by omega
  by_cases hj:j<y.length
  ·obtain ⟨w,hw⟩ : ∃ w,y[j]? = some w:=⟨_,List.getElem?_eq_getElem hj⟩
   have hwb:=hB.at hw
   have hm:=mul_le_dig hdb hwb
   (repeat' (first|(refine CmpP.go (fun hc => ?_) (fun hc => ?_)<;>first|(exfalso;omega)|(conv=>whnf))|(refine Req.go ?_ ?_;omega;conv=>whnf)|(refine OpP.add ?_ ?_;omega;conv=>whnf)|(refine OpP.nadd ?_ ?_;omega;conv=>whnf)|(refine OpP.nmul ?_ ?_;omega;conv=>whnf)|(refine ConvP.u64 ?_ ?_;omega;conv=>whnf)|(refine ConvP.n32 ?_;conv=>whnf)|(refine LenP.go ?_;conv=>whnf)|(refine RdP.at (by assumption) ?_ rfl ?_;omega;conv=>whnf)|(refine LdR.dig (by assumption) ?_ (fun v hv hb => ?_);omega;conv=>whnf)|(refine AKM.x ?_;conv=>whnf)))
   refine StR.digo (i+j) (by omega) (by omega) ?_
   (conv=>whnf)
   (repeat' (first|(refine OpP.add ?_ ?_;omega;conv=>whnf)|(refine OpP.nshr32 ?_;conv=>whnf)))
   refine AKM.back [] (by (conv=>whnf);exact ⟨rfl,rfl,rfl⟩) (jh (j+1) _ _ (by omega) ⟨by omega,by simpa using r2,r3.set _ (by omega),by omega,?_,?_⟩)
   ·have h1:=val_set (v:=(c+(d*w+v))%4294967296) hv
    have h2:=carry_step 0 (4294967296^(i+j)) (c+(d*w+v))
    rw[val_take_succ hw,show i+(j+1)=i+j+1 by omega,Nat.pow_succ (4294967296) (i+j)]
    have h3:4294967296^i*(d*(val (y.take j)+4294967296^j*w))=4294967296^i*(d*val (y.take j))+4294967296^(i+j)*(d*w):=by rw[Nat.pow_add];grind
    rw[h3]
    generalize 4294967296^(i+j)=P at *
    rw[Nat.mul_add P c,Nat.mul_add P]at h2
    omega
   ·intro k hk
    rw[List.getElem?_set_ne (by omega)]
    exact r6 k (by omega)
  ·obtain rfl:j=y.length:=by omega
   clear jh
   have hz:=r6 (i+y.length) (by omega)
   rw[p5 (i+y.length) (by omega) (by omega)]at hz
   (repeat' (first|(refine CmpP.go (fun hc => ?_) (fun hc => ?_)<;>first|(exfalso;omega)|(conv=>whnf))|(refine Req.go ?_ ?_;omega;conv=>whnf)|(refine OpP.add ?_ ?_;omega;conv=>whnf)|(refine ConvP.n32i ?_ ?_;omega;conv=>whnf)|(refine LenP.go ?_;conv=>whnf)|(refine AKM.x ?_;conv=>whnf)))
   refine StR.digo (i+y.length) (by omega) (by omega) ?_
   (conv=>whnf)
   (repeat' (refine OpP.add ?_ ?_;omega;conv=>whnf))
   refine AKM.back [] (by (conv=>whnf);exact ⟨rfl,rfl,rfl⟩) (ih (i+1) _ (by omega) ⟨by omega,by simpa using r2,r3.set _ (by omega),?_,?_⟩)
   ·have h1:=val_set (v:=c) hz
    rw[Nat.mul_zero,Nat.add_zero]at h1
    rw[h1,r5,p4,val_take_all (Nat.le_refl _),val_take_succ hd,Nat.add_mul,Nat.mul_assoc]
   ·intro k h1 h2
    rw[List.length_set]at h2
    rw[List.getElem?_set_ne (by omega),r6 k (by omega)]
    exact p5 k (by omega) (by omega)
 ·obtain rfl:i=x.length:=by omega
  clear ih
  rw[val_take_all (Nat.le_refl _)]at p4
  have hT:=fun q=>ev_r1_Trim N O q p3 (by omega)
  rw[p4]at hT
  rw[←p2]
  (repeat' (first|(refine CmpP.go (fun hc => ?_) (fun hc => ?_)<;>first|(exfalso;omega)|(conv=>whnf))|(refine LenP.go ?_;conv=>whnf)|(refine SnR.all (fun _=>rfl) rfl ?_ ?_;(first|rfl|simp);conv=>whnf)|(refine AKM.x ?_;conv=>whnf)|(refine CallP.go (hT _) ?_;conv=>whnf)))
  exact FinP.go rfl (cl_sl _)
end Go.Eng

namespace Go.Eng
open F
attribute [local irreducible] AKM CmpP Req OpP UnP ConvP RdP LdR StR MkR LenP AppR AppN CpyR RowP SnR Bds SlS CallP CalP FinP pw LdM GetM SetM PutM MkM AppM SnM FlP CallR
set_option maxHeartbeats 4000000
variable {L:Lib}
end Go.Eng

namespace Go.Eng
open F
attribute [local irreducible] AKM CmpP Req OpP UnP ConvP RdP LdR StR MkR LenP AppR AppN CpyR RowP SnR Bds SlS CallP CalP FinP pw LdM GetM SetM PutM MkM AppM SnM FlP CallR
set_option maxHeartbeats 4000000
variable {L:Lib}
section
variable {A W C w y:List Nat} {j m s ul q:Nat} {Q:Tm→Mem→Prop}
end
end Go.Eng

namespace Go.Eng
open F
attribute [local irreducible] AKM CmpP Req OpP UnP ConvP RdP LdR StR MkR LenP AppR AppN CpyR RowP SnR Bds SlS CallP CalP FinP pw LdM GetM SetM PutM MkM AppM SnM FlP CallR
set_option maxHeartbeats 8000000
variable {L:Lib}
end Go.Eng

namespace Go.Eng
open F
attribute [local irreducible] AKM CmpP Req OpP UnP ConvP RdP LdR StR MkR LenP AppR AppN CpyR RowP SnR Bds SlS CallP CalP FinP pw LdM GetM SetM PutM MkM AppM SnM FlP CallR
set_option maxHeartbeats 4000000
variable {L:Lib}
theorem ev_r2_Trim (N:RefGLib L) (n q:Bool) (m:List Nat) (hm:Sm 274877906944 m):Ev L 111 [.agg (rZ q n m)] (.agg (eZ (zv n m))):=by
 have hT:=fun q=>ev_r1_Trim N m q hm.1 (by have:=hm.2;omega)
 have hz:=dg_len0 (val m)
 have ha:=zv_abs n m
 refine Ev.x N.ref02_Trim rfl rfl ?_
 cases n
 ·rw[zv_F]at *
  (repeat' (first|(refine AKM.x ?_;conv=>whnf)|(refine CallP.go (hT _) ?_;conv=>whnf)))
  exact FinP.go (agg_eZ ha.symm (sgn_F (by omega))) (cl_eZ _)
 ·rw[zv_T]at *
  (repeat' (first|(refine CmpP.go (fun hc => ?_) (fun hc => ?_)<;>first|(exfalso;omega)|(conv=>whnf))|(refine LenP.go ?_;conv=>whnf)|(refine AKM.x ?_;conv=>whnf)|(refine CallP.go (hT _) ?_;conv=>whnf)))
  ·exact FinP.go (agg_eZ ha.symm (sgn_T (by omega))) (cl_eZ _)
  ·exact FinP.go (agg_eZ ha.symm (sgn_F (by omega))) (cl_eZ _)
theorem ev_r2_Sign (N:RefGLib L) (n q:Bool) (m:List Nat) (hm:Sm 274877906944 m):Ev L 113 [.agg (rZ q n m)] (.int .i64 (sgn (zv n m))):=by
 have hT:=fun q=>ev_r2_Trim N n q m hm
 generalize zv n m=z at *
 have hz:=dg_len0 z.natAbs
 refine Ev.x N.ref02_Sign rfl rfl ?_
 (repeat' (first|(refine CmpP.go (fun hc => ?_) (fun hc => ?_)<;>first|(exfalso;omega)|(conv=>whnf))|(refine LenP.go ?_;conv=>whnf)|(refine AKM.x ?_;conv=>whnf)|(refine CallP.go (hT _) ?_;conv=>whnf)))
 ·exact FinP.i (sgn_zero (by omega))
 ·cases hd:decide (z<0)
  ·(conv=>whnf)
   exact FinP.i (sgn_pos (by have:=of_decide_eq_false hd;omega))
  ·(conv=>whnf)
   exact FinP.i (sgn_neg (of_decide_eq_true hd))
theorem ev_r2_Neg (N:RefGLib L) (n q:Bool) (m:List Nat) (hm:Sm 274877906944 m):Ev L 114 [.agg (rZ q n m)] (.agg (eZ (-(zv n m)))):=by
 have hT:=fun q=>ev_r2_Trim N n q m hm
 generalize zv n m=z at *
 have hz:=dg_len0 z.natAbs
 refine Ev.x N.ref02_Neg rfl rfl ?_
 (repeat' (first|(refine AKM.x ?_;conv=>whnf)|(refine CallP.go (hT _) ?_;conv=>whnf)))
 cases hd:decide (z<0)
 ·have h1:=of_decide_eq_false hd
  (conv=>whnf)
  (repeat' (first|(refine CmpP.go (fun hc => ?_) (fun hc => ?_)<;>first|(exfalso;omega)|(conv=>whnf))|(refine LenP.go ?_;conv=>whnf)))
  ·exact FinP.go (agg_eZ (by omega) (sgn_T (by omega))) (cl_eZ _)
  ·exact FinP.go (agg_eZ (by omega) (sgn_F (by omega))) (cl_eZ _)
 ·have h1:=of_decide_eq_true hd
  (conv=>whnf)
  skip
  exact FinP.go (agg_eZ (by omega) (sgn_F (by omega))) (cl_eZ _)
theorem ev_r2_Mul (N:RefGLib L) (n1 n2 q1 q2:Bool) (a b:List Nat) (ha:Dig a) (hb:Dig b) (hl:a.length+b.length≤274877906944):Ev L 118 [.agg (rZ q1 n1 a),.agg (rZ q2 n2 b)] (.agg (eZ (zv n1 a*zv n2 b))):=by
 have h1:=fun q q'=>ev_r1_Mul N a b q q' ha hb (by omega)
 have sa:Sm a.length a:=⟨ha,Nat.le_refl _⟩
 have sb:Sm b.length b:=⟨hb,Nat.le_refl _⟩
 have hT:=fun n q=>ev_r2_Trim N n q (dg (val a*val b)) ((sa.mul sb rfl).le hl)
 have e : ∀ n,zv n (dg (val a*val b))=bif n then -((val a*val b:Nat):Int) else ((val a*val b:Nat):Int):=fun n=>by unfold zv;rw[val_dg]
 have e2:zv n1 a*zv n2 b=zv (n1 != n2) (dg (val a*val b)):=by
  rw[e]
  cases n1<;>cases n2<;>simp [zv_F,zv_T,Int.mul_neg,Int.neg_mul]
 rw[e2]
 refine Ev.x N.ref02_Mul rfl rfl ?_
 cases n1<;>cases n2
 all_goals
  (repeat' (first|(refine AKM.x ?_;conv=>whnf)|(refine CallP.go (h1 _ _) ?_;conv=>whnf)|(refine CallP.go (hT _ _) ?_;conv=>whnf)))
  exact FinP.go rfl (cl_eZ _)
theorem ev_r2_Add (N:RefGLib L) (n1 n2 q1 q2:Bool) (a b:List Nat) (ha:Sm 274877906943 a) (hb:Sm 274877906943 b):Ev L 115 [.agg (rZ q1 n1 a),.agg (rZ q2 n2 b)] (.agg (eZ (zv n1 a+zv n2 b))):=by
 have t1:=fun q=>ev_r2_Trim N n1 q a (ha.le (by omega))
 have t2:=fun q=>ev_r2_Trim N n2 q b (hb.le (by omega))
 have s1:Sm 274877906943 (dg (zv n1 a).natAbs):=by rw[zv_abs];exact ha.nrm
 have s2:Sm 274877906943 (dg (zv n2 b).natAbs):=by rw[zv_abs];exact hb.nrm
 generalize zv n1 a=x at *
 generalize zv n2 b=y at *
 have h1:=fun q q'=>ev_r1_Add N (dg x.natAbs) (dg y.natAbs) q q' s1.1 s2.1 (by have:=s1.2;omega) (by have:=s2.2;omega)
 have h2:=fun q q'=>ev_r1_Sub N (dg x.natAbs) (dg y.natAbs) q q' s1.1 s2.1 (by have:=s1.2;omega) (by have:=s2.2;omega)
 have h3:=fun q q'=>ev_r1_Sub N (dg y.natAbs) (dg x.natAbs) q q' s2.1 s1.1 (by have:=s2.2;omega) (by have:=s1.2;omega)
 have hcmp:=fun q q'=>ev_r1_Compare N (dg x.natAbs) (dg y.natAbs) q q' s1.1 s2.1 (by have:=s1.2;omega) (by have:=s2.2;omega)
 rw[val_dg,val_dg]at h1 h2 h3 hcmp
 have u1:=fun n q=>ev_r2_Trim N n q (dg (x.natAbs+y.natAbs)) (s1.add s2 (by rw[val_dg,val_dg];omega))
 have u2:=fun n q=>ev_r2_Trim N n q (dg (x.natAbs-y.natAbs)) ((s1.low (V:=x.natAbs-y.natAbs) (by rw[val_dg];omega)).le (by omega))
 have u3:=fun n q=>ev_r2_Trim N n q (dg (y.natAbs-x.natAbs)) ((s2.low (V:=y.natAbs-x.natAbs) (by rw[val_dg];omega)).le (by omega))
 have e : ∀ n V,zv n (dg V)=bif n then -(V:Int) else (V:Int):=fun n V=>by unfold zv;rw[val_dg]
 refine Ev.x N.ref02_Add rfl rfl ?_
 (repeat' (first|(refine AKM.x ?_;conv=>whnf)|(refine CallP.go (t1 _) ?_;conv=>whnf)|(refine CallP.go (t2 _) ?_;conv=>whnf)))
 cases hx:decide (x<0)<;>cases hy:decide (y<0)
 ·have g1:=of_decide_eq_false hx
  have g2:=of_decide_eq_false hy
  have hz:x+y=zv false (dg (x.natAbs+y.natAbs)):=by rw[e];simp only[cond_true,cond_false];omega
  rw[hz]
  (conv=>whnf)
  (repeat' (first|(refine CallP.go (h1 _ _) ?_;conv=>whnf)|(refine CallP.go (u1 _ _) ?_;conv=>whnf)))
  exact FinP.go rfl (cl_eZ _)
 ·have g1:=of_decide_eq_false hx
  have g2:=of_decide_eq_true hy
  by_cases hlt:x.natAbs<y.natAbs
  ·have hz:x+y=zv true (dg (y.natAbs-x.natAbs)):=by rw[e];simp only[cond_true,cond_false];omega
   rw[hz]
   rw[←cmpS_lt (by omega)]at hcmp
   (conv=>whnf)
   (repeat' (first|(refine CmpP.go (fun hc => ?_) (fun hc => ?_)<;>first|(exfalso;omega)|(conv=>whnf))|(refine CallP.go (hcmp _ _) ?_;conv=>whnf)|(refine CallP.go (h3 _ _) ?_;conv=>whnf)|(refine CallP.go (u3 _ _) ?_;conv=>whnf)))
   exact FinP.go rfl (cl_eZ _)
  ·have hz:x+y=zv false (dg (x.natAbs-y.natAbs)):=by rw[e];simp only[cond_true,cond_false];omega
   rw[hz]
   have hge:=cmpS_ge (show y.natAbs≤x.natAbs by omega)
   generalize cmpS (x.natAbs:Nat) (y.natAbs:Nat)=cm at *
   (conv=>whnf)
   (repeat' (first|(refine CmpP.go (fun hc => ?_) (fun hc => ?_)<;>first|(exfalso;omega)|(conv=>whnf))|(refine CallP.go (hcmp _ _) ?_;conv=>whnf)|(refine CallP.go (h2 _ _) ?_;conv=>whnf)|(refine CallP.go (u2 _ _) ?_;conv=>whnf)))
   exact FinP.go rfl (cl_eZ _)
 ·have g1:=of_decide_eq_true hx
  have g2:=of_decide_eq_false hy
  by_cases hlt:x.natAbs<y.natAbs
  ·have hz:x+y=zv false (dg (y.natAbs-x.natAbs)):=by rw[e];simp only[cond_true,cond_false];omega
   rw[hz]
   rw[←cmpS_lt (by omega)]at hcmp
   (conv=>whnf)
   (repeat' (first|(refine CmpP.go (fun hc => ?_) (fun hc => ?_)<;>first|(exfalso;omega)|(conv=>whnf))|(refine CallP.go (hcmp _ _) ?_;conv=>whnf)|(refine CallP.go (h3 _ _) ?_;conv=>whnf)|(refine CallP.go (u3 _ _) ?_;conv=>whnf)))
   exact FinP.go rfl (cl_eZ _)
  ·have hz:x+y=zv true (dg (x.natAbs-y.natAbs)):=by rw[e];simp only[cond_true,cond_false];omega
   rw[hz]
   have hge:=cmpS_ge (show y.natAbs≤x.natAbs by omega)
   generalize cmpS (x.natAbs:Nat) (y.natAbs:Nat)=cm at *
   (conv=>whnf)
   (repeat' (first|(refine CmpP.go (fun hc => ?_) (fun hc => ?_)<;>first|(exfalso;omega)|(conv=>whnf))|(refine CallP.go (hcmp _ _) ?_;conv=>whnf)|(refine CallP.go (h2 _ _) ?_;conv=>whnf)|(refine CallP.go (u2 _ _) ?_;conv=>whnf)))
   exact FinP.go rfl (cl_eZ _)
 ·have g1:=of_decide_eq_true hx
  have g2:=of_decide_eq_true hy
  have hz:x+y=zv true (dg (x.natAbs+y.natAbs)):=by rw[e];simp only[cond_true,cond_false];omega
  rw[hz]
  (conv=>whnf)
  (repeat' (first|(refine CallP.go (h1 _ _) ?_;conv=>whnf)|(refine CallP.go (u1 _ _) ?_;conv=>whnf)))
  exact FinP.go rfl (cl_eZ _)
theorem ev_r2_Sub (N:RefGLib L) (n1 n2 q1 q2:Bool) (a b:List Nat) (ha:Sm 274877906943 a) (hb:Sm 274877906943 b):Ev L 116 [.agg (rZ q1 n1 a),.agg (rZ q2 n2 b)] (.agg (eZ (zv n1 a-zv n2 b))):=by
 have t2:=fun q=>ev_r2_Neg N n2 q b (hb.le (by omega))
 have s2:Sm 274877906943 (dg (-(zv n2 b)).natAbs):=by rw[Int.natAbs_neg,zv_abs];exact hb.nrm
 have h1:=fun q q'=>ev_r2_Add N n1 (decide (-(zv n2 b)<0)) q q' a (dg (-(zv n2 b)).natAbs) ha s2
 rw[zv_of,←Int.sub_eq_add_neg]at h1
 refine Ev.x N.ref02_Sub rfl rfl ?_
 (repeat' (first|(refine AKM.x ?_;conv=>whnf)|(refine CallP.go (t2 _) ?_;conv=>whnf)|(refine CallP.go (h1 _ _) ?_;conv=>whnf)))
 exact FinP.go rfl (cl_eZ _)
theorem ev_r2_Compare (N:RefGLib L) (n1 n2 q1 q2:Bool) (a b:List Nat) (ha:Sm 274877906943 a) (hb:Sm 274877906943 b):Ev L 117 [.agg (rZ q1 n1 a),.agg (rZ q2 n2 b)] (.int .i64 (sgn (zv n1 a-zv n2 b))):=by
 have h1:=fun q q'=>ev_r2_Sub N n1 n2 q q' a b ha hb
 have s1:Sm 274877906943 (dg (zv n1 a).natAbs):=by rw[zv_abs];exact ha.nrm
 have s2:Sm 274877906943 (dg (zv n2 b).natAbs):=by rw[zv_abs];exact hb.nrm
 have s3:Sm 274877906944 (dg (zv n1 a-zv n2 b).natAbs):=s1.add s2 (by rw[val_dg,val_dg];omega)
 have h2:=fun q=>ev_r2_Sign N (decide (zv n1 a-zv n2 b<0)) q (dg (zv n1 a-zv n2 b).natAbs) s3
 rw[zv_of]at h2
 refine Ev.x N.ref02_Compare rfl rfl ?_
 (repeat' (first|(refine AKM.x ?_;conv=>whnf)|(refine CallP.go (h1 _ _) ?_;conv=>whnf)|(refine CallP.go (h2 _) ?_;conv=>whnf)))
 exact FinP.i rfl
end Go.Eng

namespace Go.Eng
open F
attribute [local irreducible] AKM CmpP Req OpP UnP ConvP RdP LdR StR MkR LenP AppR AppN CpyR RowP SnR Bds SlS CallP CalP FinP pw LdM GetM SetM PutM MkM AppM SnM FlP CallR
set_option maxHeartbeats 4000000
variable {L:Lib}
def PtIs (n:Bool) (m d:List Nat) (n':Bool) (m' d':List Nat) (k:Nat):Prop:=Sm k m'∧Sm k d'∧val d'≠0∧qv n m d=mkRat (zv n' m') (val d')
theorem cl_parts3 (n:Bool) (m d:List Nat):Clean (.tup [.agg (rZ false n m),.agg (rZ false false d)]):=by
 simp only[Clean,CleanL,and_true,true_and]
 exact ⟨cl_dig _,cl_dig _⟩
theorem ev_parts (N:RefGLib L) (n q:Bool) (m d:List Nat) (k:Nat) (hk:1≤k∧k≤274877906943) (hm:Sm k m) (hd:Sm k d) : ∃ n' m' d',Ev L 122 [.agg (rQ false q n m d)] (.tup [.agg (rZ false n' m'),.agg (rZ false false d')])∧PtIs n m d n' m' d' k:=by
 have t1:=fun q=>ev_r1_Trim N d q hd.1 (by have:=hd.2;omega)
 have hl:=dg_len0 (val d)
 by_cases h0:val d=0
 ·refine ⟨false,[],[1],?_,sm_nil _,sm_one hk.1 (by omega),by decide,by unfold qv;rw[h0,Rat.mkRat_zero,zv_nil,Rat.zero_mkRat]⟩
  refine Ev.x N.ref03_parts rfl rfl ?_
  (repeat' (first|(refine CmpP.go (fun hc => ?_) (fun hc => ?_)<;>first|(exfalso;omega)|(conv=>whnf))|(refine LenP.go ?_;conv=>whnf)|(refine SnR.e1 rfl ?_;conv=>whnf)|(refine AKM.x ?_;conv=>whnf)|(refine CallP.go (t1 _) ?_;conv=>whnf)))
  exact FinP.go rfl (cl_parts3 false [] [1])
 ·refine ⟨n,m,dg (val d),?_,hm,hd.nrm,by rw[val_dg];exact h0,by rw[val_dg];rfl⟩
  refine Ev.x N.ref03_parts rfl rfl ?_
  (repeat' (first|(refine CmpP.go (fun hc => ?_) (fun hc => ?_)<;>first|(exfalso;omega)|(conv=>whnf))|(refine LenP.go ?_;conv=>whnf)|(refine AKM.x ?_;conv=>whnf)|(refine CallP.go (t1 _) ?_;conv=>whnf)))
  exact FinP.go rfl (cl_parts3 _ _ _)
theorem sm_zmul' {k l:Nat} {n1 n2:Bool} {a b:List Nat} (ha:Sm k a) (hb:Sm l b):Sm (k+l) (dg (zv n1 a*zv n2 b).natAbs):=ha.mul hb (by rw[Int.natAbs_mul,zv_abs,zv_abs])
theorem mk_cmp {a b:Int} {d e:Nat} (hd:d≠0) (he:e≠0):sgn (a*e-b*d)=sgn (mkRat a d-mkRat b e).num:=by
 have h:mkRat a d-mkRat b e=mkRat (a*e-b*d) (d*e):=by
  rw[Rat.sub_eq_add_neg,Rat.neg_mkRat,mk_add hd he,Int.neg_mul,←Int.sub_eq_add_neg]
 rw[h,mk_sgn (Nat.mul_ne_zero hd he)]
theorem ev_r3_Compare (N:RefGLib L) (k:Nat) (hk:1≤k∧k≤68719476736) (n1 n2 q2 q4:Bool) (m1 d1 m2 d2:List Nat) (hm1:Sm k m1) (hd1:Sm k d1) (hm2:Sm k m2) (hd2:Sm k d2) :
  Ev L 127 [.agg (rQ false q2 n1 m1 d1),.agg (rQ false q4 n2 m2 d2)] (.int .i64 (sgn (qv n1 m1 d1-qv n2 m2 d2).num)):=by
 obtain ⟨a1,a2,a3,hr1,s1,s2,s3,s5⟩:=ev_parts N n1 q2 m1 d1 k (by omega) hm1 hd1
 obtain ⟨b1,b2,b3,hr2,t1,t2,t3,t5⟩:=ev_parts N n2 q4 m2 d2 k (by omega) hm2 hd2
 have l1:=s1.2
 have l2:=s2.2
 have l3:=t1.2
 have l4:=t2.2
 rw[s5,t5,←mk_cmp s3 t3,←zv_F b3,←zv_F a3]
 have hM1:=fun q q'=>ev_r2_Mul N a1 false q q' a2 b3 s1.1 t2.1 (by omega)
 have hM2:=fun q q'=>ev_r2_Mul N b1 false q q' b2 a3 t1.1 s2.1 (by omega)
 have g1:Sm (k+k) (dg (zv a1 a2*zv false b3).natAbs):=sm_zmul' s1 t2
 have g2:Sm (k+k) (dg (zv b1 b2*zv false a3).natAbs):=sm_zmul' t1 s2
 have hC:=fun q q'=>ev_r2_Compare N (decide (zv a1 a2*zv false b3<0)) (decide (zv b1 b2*zv false a3<0)) q q' _ _ (g1.le (by omega)) (g2.le (by omega))
 rw[zv_of,zv_of]at hC
 refine Ev.x N.ref03_Compare rfl rfl ?_
 (repeat' (first|(refine AKM.x ?_;conv=>whnf)|(refine CallP.go (hr1) ?_;conv=>whnf)|(refine CallP.go (hr2) ?_;conv=>whnf)|(refine CallP.go (hM1 _ _) ?_;conv=>whnf)|(refine CallP.go (hM2 _ _) ?_;conv=>whnf)|(refine CallP.go (hC _ _) ?_;conv=>whnf)))
 exact FinP.i rfl
end Go.Eng

namespace Go.Eng
open F
attribute [local irreducible] AKM CmpP Req OpP UnP ConvP RdP LdR StR MkR LenP AppR AppN CpyR RowP SnR Bds SlS CallP CalP FinP pw LdM GetM SetM PutM MkM AppM SnM FlP CallR
set_option maxHeartbeats 4000000
variable {L:Lib}
theorem Bt.sm3 {k:Nat} {x:Rat} (h:Bt k x) (hk:k<2199023255552):Sm 68719476736 (dg x.num.natAbs)∧Sm 68719476736 (dg x.den):=h.dig (by omega)
theorem ev_cmp3 (N:RefGLib L) {x y:Rat} {k l:Nat} (hx:Bt k x) (hy:Bt l y) (hk:k<2199023255552) (hl:l<2199023255552):Ev L 127 [.agg (eQ x),.agg (eQ y)] (.int .i64 (sgn (x-y).num)):=by
 have:=ev_r3_Compare N 68719476736 (by omega) (decide (x.num<0)) (decide (y.num<0)) false false _ _ _ _ (hx.sm3 hk).1 (hx.sm3 hk).2 (hy.sm3 hl).1 (hy.sm3 hl).2
 rw[qv_of,qv_of]at this
 exact this
theorem sgn_sub {x y:Rat}:sgn (x-y).num=0↔x=y:=by
 have h:sgn (x-y).num=0↔(x-y).num=0:=by unfold sgn;split<;>(try split)<;>omega
 rw[h,Rat.num_eq_zero]
 constructor
 ·intro h;grind
 ·rintro rfl;exact Rat.sub_self
theorem ev_SameRats (N:RefGLib L) (a b:List Rat) (q1 q2:Bool) (k:Nat) (ha:Bs k a) (hb:Bs k b) (hk:k<2199023255552) (hl:a.length≤1099511627776):Ev L 129 [.sl q1 (a.map eQ),.sl q2 (b.map eQ)] (.bool (decide (a=b))):=by
 refine Ev.x N.ref21_SameRats rfl rfl ?_
 by_cases hlen:a.length=b.length
 ·(repeat' (first|(refine CmpP.go (fun hc => ?_) (fun hc => ?_)<;>first|(exfalso;omega)|(conv=>whnf))|(refine LenP.go ?_;conv=>whnf)|(refine AKM.x ?_;conv=>whnf)))
  refine AKM.loop1 (fun i=>a.length-i) (fun (i:Nat)=>i≤a.length∧a.take i=b.take i) (fun i=>[(5,.int .i64 i)]) (fun _=>[]) [] [] 0 (by (conv=>whnf);exact ⟨rfl,rfl,rfl⟩) ⟨by omega,rfl⟩ ?_
  intro i ⟨p1,p2⟩ ih
  by_cases hi:i<a.length
  ·obtain ⟨x,hx⟩ : ∃ x,a[i]? = some x:=⟨_,List.getElem?_eq_getElem hi⟩
   obtain ⟨y,hy⟩ : ∃ y,b[i]? = some y:=⟨_,List.getElem?_eq_getElem (by omega)⟩
   have hx':a[(i:Int).toNat]? = some x:=hx
   have hy':b[(i:Int).toNat]? = some y:=hy
   have hC3:=ev_cmp3 N (ha.at hx) (hb.at hy) hk hk
   have hs:=sgn_sub (x:=x) (y:=y)
   generalize sgn (x-y).num=sg at *
   by_cases hxy:x=y
   ·have h0:sg=0:=hs.2 hxy
    (repeat' (first|(refine CmpP.go (fun hc => ?_) (fun hc => ?_)<;>first|(exfalso;omega)|(conv=>whnf))|(refine OpP.add ?_ ?_;omega;conv=>whnf)|(refine LenP.go ?_;conv=>whnf)|(refine RdP.at (by assumption) ?_ rfl ?_;omega;conv=>whnf)|(refine AKM.x ?_;conv=>whnf)|(refine CallP.go (hC3) ?_;conv=>whnf)))
    refine AKM.back [] (by (conv=>whnf);exact ⟨rfl,rfl,rfl⟩) (ih (i+1) (by omega) ⟨by omega,?_⟩)
    rw[List.take_add_one,List.take_add_one,p2,hx,hy,hxy]
   ·have hne:sg≠0:=fun h=>hxy (hs.1 h)
    (repeat' (first|(refine CmpP.go (fun hc => ?_) (fun hc => ?_)<;>first|(exfalso;omega)|(conv=>whnf))|(refine LenP.go ?_;conv=>whnf)|(refine RdP.at (by assumption) ?_ rfl ?_;omega;conv=>whnf)|(refine AKM.x ?_;conv=>whnf)|(refine CallP.go (hC3) ?_;conv=>whnf)))
    refine FinP.df (fun h=>hxy ?_)
    rw[h,hy]at hx
    exact (Option.some.inj hx).symm
  ·obtain rfl:i=a.length:=by omega
   clear ih
   (repeat' (first|(refine CmpP.go (fun hc => ?_) (fun hc => ?_)<;>first|(exfalso;omega)|(conv=>whnf))|(refine LenP.go ?_;conv=>whnf)|(refine AKM.x ?_;conv=>whnf)))
   refine FinP.dt ?_
   rw[List.take_of_length_le (Nat.le_refl _),List.take_of_length_le (by omega)]at p2
   exact p2
 ·(repeat' (first|(refine CmpP.go (fun hc => ?_) (fun hc => ?_)<;>first|(exfalso;omega)|(conv=>whnf))|(refine LenP.go ?_;conv=>whnf)|(refine AKM.x ?_;conv=>whnf)))
  exact FinP.df (fun h=>hlen (by rw[h]))
end Go.Eng

namespace Go.Eng
open F
attribute [local irreducible] AKM CmpP Req OpP UnP ConvP RdP LdR StR MkR LenP AppR AppN CpyR RowP SnR Bds SlS CallP CalP FinP pw LdM GetM SetM PutM MkM AppM SnM FlP CallR
set_option maxHeartbeats 4000000
variable {L:Lib}
end Go.Eng

namespace Go.Eng
abbrev eO:Option Rat→List AV
 | none=>[.bool false,.nil,.nil]
 | some x=>eQ x
def fillO (l:List Rat) (m:Nat):List (Option Rat):=l.map some++List.replicate (m-l.length) none
theorem fillO_nil (m:Nat):fillO [] m=List.replicate m none:=by simp [fillO]
theorem fillO_len {l:List Rat} {m:Nat} (h:l.length≤m):(fillO l m).length=m:=by simp [fillO];omega
theorem fillO_set {l:List Rat} {m:Nat} {x:Rat} (h:l.length<m):(fillO l m).set l.length (some x)=fillO (l++[x]) m:=by
 unfold fillO
 have e:m-l.length=(m-(l++[x]).length)+1:=by simp;omega
 rw[e,List.replicate_succ,List.set_append_right _ _ (by simp)]
 simp
theorem fillO_full {l:List Rat} {m:Nat} (h:l.length=m):(fillO l m).map eO=l.map eQ:=by
 unfold fillO
 rw[h,Nat.sub_self]
 simp [Function.comp_def]
abbrev eS (S:SysQ):List AV:=[.sl false (S.a.map fun r=>[AV.sl false (r.map eQ)]),.sl false (S.b.map eQ),.sl false (S.c.map eQ)]++eQ S.d
theorem cl_eQs (l:List Rat):CleanLL (l.map eQ):=cleanLL_map (fun x=>by simp only[CleanL,Clean,and_true,true_and];exact ⟨cl_dig _,cl_dig _⟩) l
theorem take_snoc' {l:List Rat} {i:Nat} {x:Rat} (h:l[i]? = some x):l.take (i+1)=l.take i++[x]:=by
 rw[List.take_add_one,h];rfl
theorem cl_three (a b:List Rat) (e:Int):Clean (.tup [.sl false (a.map eQ),.sl false (b.map eQ),.int .i64 e]):=by
 simp only[Clean,CleanL,and_true,true_and]
 exact ⟨cl_eQs a,cl_eQs b⟩
theorem cl_two (a:List Rat) (e:Int):Clean (.tup [.sl false (a.map eQ),.int .i64 e]):=by
 simp only[Clean,CleanL,and_true,true_and]
 exact cl_eQs a
theorem cl_eS (S:SysQ):Clean (.agg (eS S)):=by
 have h:CleanLL (S.a.map fun r=>[AV.sl false (r.map eQ)]):=cleanLL_map (fun r=>by simp only[CleanL,Clean,and_true,true_and];exact cl_eQs r) S.a
 simp only[Clean,List.cons_append,List.nil_append,CleanL,and_true,true_and]
 exact ⟨h,cl_eQs _,cl_eQs _,cl_dig _,cl_dig _⟩
end Go.Eng
