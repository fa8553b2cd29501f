/-
  Transfer functions of systems, plain: the numerator is the product of the denominator and the impulse response.
-/
import Derived.Test.YtdehnieflanifaaGreatB11
import Derived.Test.YtdehnieflanifaaGreatB5
import Derived.Test.YtdehnieflanifaaGreatB3
import Derived.ProofKit
import Derived.OpenShut
import Derived.ChangeOld
import Derived.WalkKit
import Derived.WideShapes
import Derived.ChangeArms
import Derived.Test.YtdehnieflanifaaGreatB7
set_option linter.unusedSimpArgs false
set_option linter.unusedVariables false
set_option linter.unnecessarySimpa false
namespace Go.Eng
theorem dotQ_comm : ∀ a b:List Rat,dotQ a b=dotQ b a
 | [],[]=>rfl
 | [],_::_=>rfl
 | _::_,[]=>rfl
 | x::a,y::b=>by simp only[dotQ,dotQ_comm a b,Rat.mul_comm]
theorem dotQ_zeros : ∀ (v:List Rat) (n:Nat),dotQ (List.replicate n 0) v=0
 | [],n=>dotQ_nil _
 | y::v,0=>rfl
 | y::v,n+1=>by rw[List.replicate_succ];simp only[dotQ,dotQ_zeros v n];grind
theorem dotQ_zerosR (v:List Rat) (n:Nat):dotQ v (List.replicate n 0)=0:=by rw[dotQ_comm,dotQ_zeros]
theorem dotQ_sml (x:Rat) : ∀ a b:List Rat,dotQ (a.map (x * ·)) b=x*dotQ a b
 | [],_=>by simp [dotQ]
 | _::_,[]=>by simp [dotQ]
 | p::a,q::b=>by simp only[List.map_cons,dotQ,dotQ_sml x a b];grind
theorem mulRow_nil (u:List Rat) (n:Nat):mulRow u [] n=List.replicate n 0:=by
 refine List.ext_getElem? fun j => ?_
 simp only[mulRow,colQ,List.map_nil,dotQ_nil,List.getElem?_map,List.getElem?_replicate]
 by_cases h:j<n
 ·rw[List.getElem?_range h,if_pos h];rfl
 ·rw[List.getElem?_eq_none (by simp;omega),if_neg h];rfl
theorem mulRow_nil' (m:List (List Rat)) (n:Nat):mulRow [] m n=List.replicate n 0:=by
 refine List.ext_getElem? fun j => ?_
 simp only[mulRow,dotQ,List.getElem?_map,List.getElem?_replicate]
 by_cases h:j<n
 ·rw[List.getElem?_range h,if_pos h];rfl
 ·rw[List.getElem?_eq_none (by simp;omega),if_neg h];rfl
theorem mulRow_cons (x:Rat) (u r:List Rat) (m:List (List Rat)) (n:Nat) (hr:r.length=n):mulRow (x::u) (r::m) n=addL (r.map (x * ·)) (mulRow u m n):=by
 refine List.ext_getElem? fun j => ?_
 simp only[mulRow,addL,List.getElem?_map,List.getElem?_zipWith]
 by_cases h:j<n
 ·rw[List.getElem?_range h]
  obtain ⟨y,hy⟩ : ∃ y,r[j]? = some y:=⟨_,List.getElem?_eq_getElem (by omega)⟩
  rw[hy]
  simp only[Option.map_some,colQ,List.map_cons,dotQ,List.getD_eq_getElem?_getD,hy,Option.getD_some]
 ·rw[List.getElem?_eq_none (by simp;omega),List.getElem?_eq_none (l:=r) (by omega)]
  rfl
theorem dotQ_assoc {n:Nat} {v:List Rat} : ∀ (m:List (List Rat)) (u:List Rat),(∀ r∈m,r.length=n)→dotQ (mulRow u m n) v=dotQ u (mvQ m v)
 | [],u,_=>by rw[mulRow_nil,dotQ_zeros,mvQ,List.map_nil,dotQ_nil]
 | r::m,[],_=>by rw[mulRow_nil',dotQ_zeros];rfl
 | r::m,x::u,h=>by
  have hr:=h r (by simp)
  rw[mulRow_cons x u r m n hr,dotQ_comm,dotQ_add (by rw[List.length_map,mulRow_len];exact hr),dotQ_comm v,dotQ_comm v,dotQ_sml,dotQ_assoc m u fun r hr=>h r (by simp [hr])]
  rfl
theorem mvQ_mul {n:Nat} (a m:List (List Rat)) (v:List Rat) (h : ∀ r∈m,r.length=n):mvQ (mulQ a m n) v=mvQ a (mvQ m v):=by
 simp only[mvQ,mulQ,List.map_map]
 exact List.map_congr_left fun r _=>dotQ_assoc m r h
theorem dotQ_set (c:Rat) : ∀ (row b:List Rat) (i:Nat),row.length=b.length→i<row.length→dotQ (row.set i (row.getD i 0+c)) b=dotQ row b+c*b.getD i 0
 | [],_,_,_,h=>by simp at h
 | x::row,[],_,h,_=>by simp at h
 | x::row,y::b,0,_,_=>by simp [dotQ];grind
 | x::row,y::b,i+1,h,hi=>by
  simp only[List.set_cons_succ,List.getD_cons_succ,dotQ]
  rw[dotQ_set c row b i (by simpa using h) (by simpa using hi)]
  grind
theorem mvQ_addD {n:Nat} {m:List (List Rat)} (hs:Sq n m) (c:Rat) (b:List Rat) (hb:b.length=n):mvQ (addD m c n) b=addL (mvQ m b) (b.map (c * ·)):=by
 refine List.ext_getElem? fun r => ?_
 simp only[mvQ,addL,List.getElem?_map,List.getElem?_zipWith]
 cases e:m[r]? with
 | none =>
  have h1:=List.getElem?_eq_none_iff.1 e
  rw[List.getElem?_eq_none (by rw[addD_len];exact h1)];rfl
 | some row =>
  have h1:=(List.getElem?_eq_some_iff.1 e).1
  have hl:=hs.at e
  have hm:=hs.l
  obtain ⟨y,hy⟩ : ∃ y,b[r]? = some y:=⟨_,List.getElem?_eq_getElem (by omega)⟩
  rw[addD_at e,if_pos (by omega),hy]
  simp only[Option.map_some]
  rw[dotQ_set c row b r (by omega) (by omega),List.getD_eq_getElem?_getD,hy]
  rfl
theorem mvQ_id {n:Nat} {b:List Rat} (hb:b.length=n):mvQ (idQ n) b=b:=by
 have unit : ∀ (k n i:Nat) (b:List Rat),b.length=n→dotQ ((List.range' k n).map fun a:Nat=>if (a:Int)=((k+i:Nat):Int) then 1 else 0) b=b.getD i 0:=by
  intro k n
  induction n generalizing k with
  | zero=>intro i b hb;obtain rfl:=List.eq_nil_of_length_eq_zero hb;simp [dotQ]
  | succ n ih =>
   intro i b hb
   cases b with
   | nil=>simp at hb
   | cons y b =>
    rw[List.range'_succ,List.map_cons,dotQ]
    cases i with
    | zero =>
     have hz:((List.range' (k+1) n).map fun a:Nat=>if (a:Int)=((k+0:Nat):Int) then (1:Rat) else 0)=List.replicate n 0:=by
      rw[List.eq_replicate_iff]
      refine ⟨by simp,fun x hx => ?_⟩
      obtain ⟨a,ha,rfl⟩:=List.mem_map.1 hx
      rw[if_neg]
      have:=(List.mem_range'_1.1 ha).1
      omega
     rw[hz,dotQ_zeros,if_pos (by simp)]
     simp [Rat.add_zero]
    | succ i =>
     have:=ih (k+1) i b (by simpa using hb)
     rw[show k+1+i=k+(i+1) by omega]at this
     rw[this,if_neg (by omega),List.getD_cons_succ]
     grind
 refine List.ext_getElem? fun r => ?_
 simp only[mvQ,idQ,List.getElem?_map]
 by_cases h:r<n
 ·rw[List.getElem?_range h]
  have:=unit 0 n r b hb
  rw[Nat.zero_add]at this
  simp only[Option.map_some,unitL,List.range_eq_range']at this ⊢
  rw[this,List.getD_eq_getElem?_getD,List.getElem?_eq_getElem (by omega)]
  rfl
 ·rw[List.getElem?_eq_none (by simp;omega),List.getElem?_eq_none (by omega)]
  rfl
def wQ (S:SysQ):Nat→List Rat
 | 0=>S.b
 | j+1=>mvQ S.a (wQ S j)
def conv (A h:Nat→Rat) (K:Nat):Nat→Rat
 | 0=>0
 | a+1=>conv A h K a+A a*h (K-a)
theorem conv_congr {A A' h h':Nat→Rat} {K K':Nat} : ∀ m,(∀ a,a<m→A a=A' a)→(∀ a,a<m→h (K-a)=h' (K'-a))→conv A h K m=conv A' h' K' m
 | 0,_,_=>rfl
 | m+1,h1,h2=>by rw[conv,conv,conv_congr m (fun a ha=>h1 a (by omega)) (fun a ha=>h2 a (by omega)),h1 m (by omega),h2 m (by omega)]
theorem conv_more {A h:Nat→Rat} {K m:Nat} (hz : ∀ a,m≤a→A a=0) : ∀ j,conv A h K (m+j)=conv A h K m
 | 0=>rfl
 | j+1=>by rw[←Nat.add_assoc,conv,conv_more hz j,hz (m+j) (by omega),Rat.zero_mul,Rat.add_zero]
def cfQ (a:List (List Rat)) (n:Nat):Nat→Rat
 | 0=>1
 | k+1=>cofQ a n k
theorem fl_conv {n:Nat} {S:SysQ} (hs:Sq n S.a) (hb:S.b.length=n) : ∀ (k:Nat) (u:List Rat),u.length=n→dotQ u (mvQ (flM S.a n k) S.b)=conv (cfQ S.a n) (fun j=>dotQ u (wQ S j)) k (k+1)
 | 0,u,_=>by
  rw[flM,mvQ_id hb]
  simp only[conv,cfQ,wQ,Nat.sub_zero]
  grind
 | k+1,u,hu=>by
  have hfl:flM S.a n (k+1)=addD (mulQ S.a (flM S.a n k) n) (cofQ S.a n k) n:=rfl
  have hM:=Sq.fl (a:=S.a) hs.l k
  rw[hfl,mvQ_addD (Sq.mul hs.l _) _ _ hb,dotQ_add (by rw[mvQ_len,mulQ_len,List.length_map,hs.l,hb]),mvQ_mul _ _ _ hM.r]
  have e1:dotQ u (mvQ S.a (mvQ (flM S.a n k) S.b))=dotQ (mulRow u S.a n) (mvQ (flM S.a n k) S.b):=(dotQ_assoc S.a u hs.r).symm
  rw[e1,fl_conv hs hb k (mulRow u S.a n) (mulRow_len _ _ _),dotQ_comm u,dotQ_sml]
  have e2:conv (cfQ S.a n) (fun j=>dotQ u (wQ S j)) (k+1) (k+1+1)=conv (cfQ S.a n) (fun j=>dotQ u (wQ S j)) (k+1) (k+1)+cofQ S.a n k*dotQ S.b u:=by
   rw[conv,Nat.sub_self,dotQ_comm S.b];rfl
  rw[e2]
  congr 1
  refine conv_congr (k+1) (fun a _=>rfl) fun a ha => ?_
  show dotQ (mulRow u S.a n) (wQ S (k-a))=dotQ u (wQ S (k+1-a))
  rw[dotQ_assoc S.a u hs.r,show k+1-a=(k-a)+1 by omega]
  rfl
end Go.Eng
namespace Go.Eng
theorem cof_inv (k:Nat) (hk:k≠0) (t:Rat):((k:Nat):Rat)*(t*Rat.divInt (-1) (k:Int)) = -t:=by
 have h:Rat.divInt (-1) (k:Int)=(-1)/((k:Nat):Rat):=by
  rw[Rat.divInt_ofNat,Rat.mkRat_eq_div];rfl
 have h0:((k:Nat):Rat)≠0:=by exact_mod_cast hk
 rw[h]
 grind
theorem len1 {α:Type} {l:List α} (h:l.length=1) : ∃ a,l=[a]:=by
 rcases l with _|⟨a,_|⟨b,l⟩⟩<;>simp at h
 exact ⟨a,rfl⟩
theorem len2 {α:Type} {l:List α} (h:l.length=2) : ∃ a b,l=[a,b]:=by
 obtain ⟨a,r,rfl⟩ : ∃ a r,l=a::r:=by
  cases l with
  | nil=>simp at h
  | cons a r=>exact ⟨a,r,rfl⟩
 obtain ⟨b,rfl⟩:=len1 (l:=r) (by simpa using h)
 exact ⟨_,_,rfl⟩
theorem len3 {α:Type} {l:List α} (h:l.length=3) : ∃ a b c,l=[a,b,c]:=by
 obtain ⟨a,r,rfl⟩ : ∃ a r,l=a::r:=by
  cases l with
  | nil=>simp at h
  | cons a r=>exact ⟨a,r,rfl⟩
 obtain ⟨b,c,rfl⟩:=len2 (l:=r) (by simpa using h)
 exact ⟨_,_,_,rfl⟩
theorem len4 {α:Type} {l:List α} (h:l.length=4) : ∃ a b c d,l=[a,b,c,d]:=by
 obtain ⟨a,r,rfl⟩ : ∃ a r,l=a::r:=by
  cases l with
  | nil=>simp at h
  | cons a r=>exact ⟨a,r,rfl⟩
 obtain ⟨b,c,d,rfl⟩:=len3 (l:=r) (by simpa using h)
 exact ⟨_,_,_,_,rfl⟩
theorem step1 (x00 m00 c:Rat):addD (mulQ [[x00]] [[m00]] 1) c 1=[[(x00*m00+0)+c]]:=rfl
theorem tr1 (x00 m00:Rat):trQ (mulQ [[x00]] [[m00]] 1) 1=0+(x00*m00+0):=rfl
theorem id1:idQ 1=[[1]]:=rfl
set_option maxHeartbeats 40000000 in
theorem chz1 (x00:Rat):flM [[x00]] 1 1=List.replicate 1 (List.replicate 1 0):=by
 have h0:flM [[x00]] 1 0=idQ 1:=rfl
 rw[id1]at h0
 have h1:flM [[x00]] 1 1=addD (mulQ [[x00]] (flM [[x00]] 1 0) 1) (cofQ [[x00]] 1 0) 1:=rfl
 have k0:=cof_inv 1 (by omega) (trQ (mulQ [[x00]] (flM [[x00]] 1 0) 1) 1)
 rw[show trQ (mulQ [[x00]] (flM [[x00]] 1 0) 1) 1*Rat.divInt (-1) ((1:Nat):Int)=cofQ [[x00]] 1 0 from rfl,h0,tr1]at k0
 generalize cofQ [[x00]] 1 0=c0 at *
 rw[h0,step1]at h1
 clear h0
 rw[h1]
 clear h1
 simp only[List.replicate,List.cons.injEq,and_true]
 grind
theorem step2 (x00 x01 x10 x11 m00 m01 m10 m11 c:Rat):addD (mulQ [[x00,x01],[x10,x11]] [[m00,m01],[m10,m11]] 2) c 2=[[(x00*m00+(x01*m10+0))+c,x00*m01+(x01*m11+0)],[x10*m00+(x11*m10+0),(x10*m01+(x11*m11+0))+c]]:=rfl
theorem tr2 (x00 x01 x10 x11 m00 m01 m10 m11:Rat):trQ (mulQ [[x00,x01],[x10,x11]] [[m00,m01],[m10,m11]] 2) 2=(0+(x00*m00+(x01*m10+0)))+(x10*m01+(x11*m11+0)):=rfl
theorem id2:idQ 2=[[1,0],[0,1]]:=rfl
set_option maxHeartbeats 40000000 in
theorem chz2 (x00 x01 x10 x11:Rat):flM [[x00,x01],[x10,x11]] 2 2=List.replicate 2 (List.replicate 2 0):=by
 have h0:flM [[x00,x01],[x10,x11]] 2 0=idQ 2:=rfl
 rw[id2]at h0
 have h1:flM [[x00,x01],[x10,x11]] 2 1=addD (mulQ [[x00,x01],[x10,x11]] (flM [[x00,x01],[x10,x11]] 2 0) 2) (cofQ [[x00,x01],[x10,x11]] 2 0) 2:=rfl
 have k0:=cof_inv 1 (by omega) (trQ (mulQ [[x00,x01],[x10,x11]] (flM [[x00,x01],[x10,x11]] 2 0) 2) 2)
 rw[show trQ (mulQ [[x00,x01],[x10,x11]] (flM [[x00,x01],[x10,x11]] 2 0) 2) 2*Rat.divInt (-1) ((1:Nat):Int)=cofQ [[x00,x01],[x10,x11]] 2 0 from rfl,h0,tr2]at k0
 generalize cofQ [[x00,x01],[x10,x11]] 2 0=c0 at *
 rw[h0,step2]at h1
 have h2:flM [[x00,x01],[x10,x11]] 2 2=addD (mulQ [[x00,x01],[x10,x11]] (flM [[x00,x01],[x10,x11]] 2 1) 2) (cofQ [[x00,x01],[x10,x11]] 2 1) 2:=rfl
 have k1:=cof_inv 2 (by omega) (trQ (mulQ [[x00,x01],[x10,x11]] (flM [[x00,x01],[x10,x11]] 2 1) 2) 2)
 rw[show trQ (mulQ [[x00,x01],[x10,x11]] (flM [[x00,x01],[x10,x11]] 2 1) 2) 2*Rat.divInt (-1) ((2:Nat):Int)=cofQ [[x00,x01],[x10,x11]] 2 1 from rfl,h1,tr2]at k1
 generalize cofQ [[x00,x01],[x10,x11]] 2 1=c1 at *
 rw[h1,step2]at h2
 clear h0 h1
 rw[h2]
 clear h2
 simp only[List.replicate,List.cons.injEq,and_true]
 refine ⟨⟨?_,?_⟩,⟨?_,?_⟩⟩<;>grind
theorem step3 (x00 x01 x02 x10 x11 x12 x20 x21 x22 m00 m01 m02 m10 m11 m12 m20 m21 m22 c:Rat):addD (mulQ [[x00,x01,x02],[x10,x11,x12],[x20,x21,x22]] [[m00,m01,m02],[m10,m11,m12],[m20,m21,m22]] 3) c 3=[[(x00*m00+(x01*m10+(x02*m20+0)))+c,x00*m01+(x01*m11+(x02*m21+0)),x00*m02+(x01*m12+(x02*m22+0))],[x10*m00+(x11*m10+(x12*m20+0)),(x10*m01+(x11*m11+(x12*m21+0)))+c,x10*m02+(x11*m12+(x12*m22+0))],[x20*m00+(x21*m10+(x22*m20+0)),x20*m01+(x21*m11+(x22*m21+0)),(x20*m02+(x21*m12+(x22*m22+0)))+c]]:=rfl
theorem tr3 (x00 x01 x02 x10 x11 x12 x20 x21 x22 m00 m01 m02 m10 m11 m12 m20 m21 m22:Rat):trQ (mulQ [[x00,x01,x02],[x10,x11,x12],[x20,x21,x22]] [[m00,m01,m02],[m10,m11,m12],[m20,m21,m22]] 3) 3=((0+(x00*m00+(x01*m10+(x02*m20+0))))+(x10*m01+(x11*m11+(x12*m21+0))))+(x20*m02+(x21*m12+(x22*m22+0))):=rfl
theorem id3:idQ 3=[[1,0,0],[0,1,0],[0,0,1]]:=rfl
set_option maxHeartbeats 40000000 in
theorem chz3 (x00 x01 x02 x10 x11 x12 x20 x21 x22:Rat):flM [[x00,x01,x02],[x10,x11,x12],[x20,x21,x22]] 3 3=List.replicate 3 (List.replicate 3 0):=by
 have h0:flM [[x00,x01,x02],[x10,x11,x12],[x20,x21,x22]] 3 0=idQ 3:=rfl
 rw[id3]at h0
 have h1:flM [[x00,x01,x02],[x10,x11,x12],[x20,x21,x22]] 3 1=addD (mulQ [[x00,x01,x02],[x10,x11,x12],[x20,x21,x22]] (flM [[x00,x01,x02],[x10,x11,x12],[x20,x21,x22]] 3 0) 3) (cofQ [[x00,x01,x02],[x10,x11,x12],[x20,x21,x22]] 3 0) 3:=rfl
 have k0:=cof_inv 1 (by omega) (trQ (mulQ [[x00,x01,x02],[x10,x11,x12],[x20,x21,x22]] (flM [[x00,x01,x02],[x10,x11,x12],[x20,x21,x22]] 3 0) 3) 3)
 rw[show trQ (mulQ [[x00,x01,x02],[x10,x11,x12],[x20,x21,x22]] (flM [[x00,x01,x02],[x10,x11,x12],[x20,x21,x22]] 3 0) 3) 3*Rat.divInt (-1) ((1:Nat):Int)=cofQ [[x00,x01,x02],[x10,x11,x12],[x20,x21,x22]] 3 0 from rfl,h0,tr3]at k0
 generalize cofQ [[x00,x01,x02],[x10,x11,x12],[x20,x21,x22]] 3 0=c0 at *
 rw[h0,step3]at h1
 have h2:flM [[x00,x01,x02],[x10,x11,x12],[x20,x21,x22]] 3 2=addD (mulQ [[x00,x01,x02],[x10,x11,x12],[x20,x21,x22]] (flM [[x00,x01,x02],[x10,x11,x12],[x20,x21,x22]] 3 1) 3) (cofQ [[x00,x01,x02],[x10,x11,x12],[x20,x21,x22]] 3 1) 3:=rfl
 have k1:=cof_inv 2 (by omega) (trQ (mulQ [[x00,x01,x02],[x10,x11,x12],[x20,x21,x22]] (flM [[x00,x01,x02],[x10,x11,x12],[x20,x21,x22]] 3 1) 3) 3)
 rw[show trQ (mulQ [[x00,x01,x02],[x10,x11,x12],[x20,x21,x22]] (flM [[x00,x01,x02],[x10,x11,x12],[x20,x21,x22]] 3 1) 3) 3*Rat.divInt (-1) ((2:Nat):Int)=cofQ [[x00,x01,x02],[x10,x11,x12],[x20,x21,x22]] 3 1 from rfl,h1,tr3]at k1
 generalize cofQ [[x00,x01,x02],[x10,x11,x12],[x20,x21,x22]] 3 1=c1 at *
 rw[h1,step3]at h2
 have h3:flM [[x00,x01,x02],[x10,x11,x12],[x20,x21,x22]] 3 3=addD (mulQ [[x00,x01,x02],[x10,x11,x12],[x20,x21,x22]] (flM [[x00,x01,x02],[x10,x11,x12],[x20,x21,x22]] 3 2) 3) (cofQ [[x00,x01,x02],[x10,x11,x12],[x20,x21,x22]] 3 2) 3:=rfl
 have k2:=cof_inv 3 (by omega) (trQ (mulQ [[x00,x01,x02],[x10,x11,x12],[x20,x21,x22]] (flM [[x00,x01,x02],[x10,x11,x12],[x20,x21,x22]] 3 2) 3) 3)
 rw[show trQ (mulQ [[x00,x01,x02],[x10,x11,x12],[x20,x21,x22]] (flM [[x00,x01,x02],[x10,x11,x12],[x20,x21,x22]] 3 2) 3) 3*Rat.divInt (-1) ((3:Nat):Int)=cofQ [[x00,x01,x02],[x10,x11,x12],[x20,x21,x22]] 3 2 from rfl,h2,tr3]at k2
 generalize cofQ [[x00,x01,x02],[x10,x11,x12],[x20,x21,x22]] 3 2=c2 at *
 rw[h2,step3]at h3
 clear h0 h1 h2
 rw[h3]
 clear h3
 simp only[List.replicate,List.cons.injEq,and_true]
 refine ⟨⟨?_,?_,?_⟩,⟨?_,?_,?_⟩,⟨?_,?_,?_⟩⟩<;>grind
theorem step4 (x00 x01 x02 x03 x10 x11 x12 x13 x20 x21 x22 x23 x30 x31 x32 x33 m00 m01 m02 m03 m10 m11 m12 m13 m20 m21 m22 m23 m30 m31 m32 m33 c:Rat):addD (mulQ [[x00,x01,x02,x03],[x10,x11,x12,x13],[x20,x21,x22,x23],[x30,x31,x32,x33]] [[m00,m01,m02,m03],[m10,m11,m12,m13],[m20,m21,m22,m23],[m30,m31,m32,m33]] 4) c 4=[[(x00*m00+(x01*m10+(x02*m20+(x03*m30+0))))+c,x00*m01+(x01*m11+(x02*m21+(x03*m31+0))),x00*m02+(x01*m12+(x02*m22+(x03*m32+0))),x00*m03+(x01*m13+(x02*m23+(x03*m33+0)))],[x10*m00+(x11*m10+(x12*m20+(x13*m30+0))),(x10*m01+(x11*m11+(x12*m21+(x13*m31+0))))+c,x10*m02+(x11*m12+(x12*m22+(x13*m32+0))),x10*m03+(x11*m13+(x12*m23+(x13*m33+0)))],[x20*m00+(x21*m10+(x22*m20+(x23*m30+0))),x20*m01+(x21*m11+(x22*m21+(x23*m31+0))),(x20*m02+(x21*m12+(x22*m22+(x23*m32+0))))+c,x20*m03+(x21*m13+(x22*m23+(x23*m33+0)))],[x30*m00+(x31*m10+(x32*m20+(x33*m30+0))),x30*m01+(x31*m11+(x32*m21+(x33*m31+0))),x30*m02+(x31*m12+(x32*m22+(x33*m32+0))),(x30*m03+(x31*m13+(x32*m23+(x33*m33+0))))+c]]:=rfl
theorem tr4 (x00 x01 x02 x03 x10 x11 x12 x13 x20 x21 x22 x23 x30 x31 x32 x33 m00 m01 m02 m03 m10 m11 m12 m13 m20 m21 m22 m23 m30 m31 m32 m33:Rat):trQ (mulQ [[x00,x01,x02,x03],[x10,x11,x12,x13],[x20,x21,x22,x23],[x30,x31,x32,x33]] [[m00,m01,m02,m03],[m10,m11,m12,m13],[m20,m21,m22,m23],[m30,m31,m32,m33]] 4) 4=(((0+(x00*m00+(x01*m10+(x02*m20+(x03*m30+0)))))+(x10*m01+(x11*m11+(x12*m21+(x13*m31+0)))))+(x20*m02+(x21*m12+(x22*m22+(x23*m32+0)))))+(x30*m03+(x31*m13+(x32*m23+(x33*m33+0)))):=rfl
theorem id4:idQ 4=[[1,0,0,0],[0,1,0,0],[0,0,1,0],[0,0,0,1]]:=rfl
set_option maxHeartbeats 40000000 in
theorem chz4 (x00 x01 x02 x03 x10 x11 x12 x13 x20 x21 x22 x23 x30 x31 x32 x33:Rat):flM [[x00,x01,x02,x03],[x10,x11,x12,x13],[x20,x21,x22,x23],[x30,x31,x32,x33]] 4 4=List.replicate 4 (List.replicate 4 0):=by
 have h0:flM [[x00,x01,x02,x03],[x10,x11,x12,x13],[x20,x21,x22,x23],[x30,x31,x32,x33]] 4 0=idQ 4:=rfl
 rw[id4]at h0
 have h1:flM [[x00,x01,x02,x03],[x10,x11,x12,x13],[x20,x21,x22,x23],[x30,x31,x32,x33]] 4 1=addD (mulQ [[x00,x01,x02,x03],[x10,x11,x12,x13],[x20,x21,x22,x23],[x30,x31,x32,x33]] (flM [[x00,x01,x02,x03],[x10,x11,x12,x13],[x20,x21,x22,x23],[x30,x31,x32,x33]] 4 0) 4) (cofQ [[x00,x01,x02,x03],[x10,x11,x12,x13],[x20,x21,x22,x23],[x30,x31,x32,x33]] 4 0) 4:=rfl
 have k0:=cof_inv 1 (by omega) (trQ (mulQ [[x00,x01,x02,x03],[x10,x11,x12,x13],[x20,x21,x22,x23],[x30,x31,x32,x33]] (flM [[x00,x01,x02,x03],[x10,x11,x12,x13],[x20,x21,x22,x23],[x30,x31,x32,x33]] 4 0) 4) 4)
 rw[show trQ (mulQ [[x00,x01,x02,x03],[x10,x11,x12,x13],[x20,x21,x22,x23],[x30,x31,x32,x33]] (flM [[x00,x01,x02,x03],[x10,x11,x12,x13],[x20,x21,x22,x23],[x30,x31,x32,x33]] 4 0) 4) 4*Rat.divInt (-1) ((1:Nat):Int)=cofQ [[x00,x01,x02,x03],[x10,x11,x12,x13],[x20,x21,x22,x23],[x30,x31,x32,x33]] 4 0 from rfl,h0,tr4]at k0
 generalize cofQ [[x00,x01,x02,x03],[x10,x11,x12,x13],[x20,x21,x22,x23],[x30,x31,x32,x33]] 4 0=c0 at *
 rw[h0,step4]at h1
 have h2:flM [[x00,x01,x02,x03],[x10,x11,x12,x13],[x20,x21,x22,x23],[x30,x31,x32,x33]] 4 2=addD (mulQ [[x00,x01,x02,x03],[x10,x11,x12,x13],[x20,x21,x22,x23],[x30,x31,x32,x33]] (flM [[x00,x01,x02,x03],[x10,x11,x12,x13],[x20,x21,x22,x23],[x30,x31,x32,x33]] 4 1) 4) (cofQ [[x00,x01,x02,x03],[x10,x11,x12,x13],[x20,x21,x22,x23],[x30,x31,x32,x33]] 4 1) 4:=rfl
 have k1:=cof_inv 2 (by omega) (trQ (mulQ [[x00,x01,x02,x03],[x10,x11,x12,x13],[x20,x21,x22,x23],[x30,x31,x32,x33]] (flM [[x00,x01,x02,x03],[x10,x11,x12,x13],[x20,x21,x22,x23],[x30,x31,x32,x33]] 4 1) 4) 4)
 rw[show trQ (mulQ [[x00,x01,x02,x03],[x10,x11,x12,x13],[x20,x21,x22,x23],[x30,x31,x32,x33]] (flM [[x00,x01,x02,x03],[x10,x11,x12,x13],[x20,x21,x22,x23],[x30,x31,x32,x33]] 4 1) 4) 4*Rat.divInt (-1) ((2:Nat):Int)=cofQ [[x00,x01,x02,x03],[x10,x11,x12,x13],[x20,x21,x22,x23],[x30,x31,x32,x33]] 4 1 from rfl,h1,tr4]at k1
 generalize cofQ [[x00,x01,x02,x03],[x10,x11,x12,x13],[x20,x21,x22,x23],[x30,x31,x32,x33]] 4 1=c1 at *
 rw[h1,step4]at h2
 have h3:flM [[x00,x01,x02,x03],[x10,x11,x12,x13],[x20,x21,x22,x23],[x30,x31,x32,x33]] 4 3=addD (mulQ [[x00,x01,x02,x03],[x10,x11,x12,x13],[x20,x21,x22,x23],[x30,x31,x32,x33]] (flM [[x00,x01,x02,x03],[x10,x11,x12,x13],[x20,x21,x22,x23],[x30,x31,x32,x33]] 4 2) 4) (cofQ [[x00,x01,x02,x03],[x10,x11,x12,x13],[x20,x21,x22,x23],[x30,x31,x32,x33]] 4 2) 4:=rfl
 have k2:=cof_inv 3 (by omega) (trQ (mulQ [[x00,x01,x02,x03],[x10,x11,x12,x13],[x20,x21,x22,x23],[x30,x31,x32,x33]] (flM [[x00,x01,x02,x03],[x10,x11,x12,x13],[x20,x21,x22,x23],[x30,x31,x32,x33]] 4 2) 4) 4)
 rw[show trQ (mulQ [[x00,x01,x02,x03],[x10,x11,x12,x13],[x20,x21,x22,x23],[x30,x31,x32,x33]] (flM [[x00,x01,x02,x03],[x10,x11,x12,x13],[x20,x21,x22,x23],[x30,x31,x32,x33]] 4 2) 4) 4*Rat.divInt (-1) ((3:Nat):Int)=cofQ [[x00,x01,x02,x03],[x10,x11,x12,x13],[x20,x21,x22,x23],[x30,x31,x32,x33]] 4 2 from rfl,h2,tr4]at k2
 generalize cofQ [[x00,x01,x02,x03],[x10,x11,x12,x13],[x20,x21,x22,x23],[x30,x31,x32,x33]] 4 2=c2 at *
 rw[h2,step4]at h3
 have h4:flM [[x00,x01,x02,x03],[x10,x11,x12,x13],[x20,x21,x22,x23],[x30,x31,x32,x33]] 4 4=addD (mulQ [[x00,x01,x02,x03],[x10,x11,x12,x13],[x20,x21,x22,x23],[x30,x31,x32,x33]] (flM [[x00,x01,x02,x03],[x10,x11,x12,x13],[x20,x21,x22,x23],[x30,x31,x32,x33]] 4 3) 4) (cofQ [[x00,x01,x02,x03],[x10,x11,x12,x13],[x20,x21,x22,x23],[x30,x31,x32,x33]] 4 3) 4:=rfl
 have k3:=cof_inv 4 (by omega) (trQ (mulQ [[x00,x01,x02,x03],[x10,x11,x12,x13],[x20,x21,x22,x23],[x30,x31,x32,x33]] (flM [[x00,x01,x02,x03],[x10,x11,x12,x13],[x20,x21,x22,x23],[x30,x31,x32,x33]] 4 3) 4) 4)
 rw[show trQ (mulQ [[x00,x01,x02,x03],[x10,x11,x12,x13],[x20,x21,x22,x23],[x30,x31,x32,x33]] (flM [[x00,x01,x02,x03],[x10,x11,x12,x13],[x20,x21,x22,x23],[x30,x31,x32,x33]] 4 3) 4) 4*Rat.divInt (-1) ((4:Nat):Int)=cofQ [[x00,x01,x02,x03],[x10,x11,x12,x13],[x20,x21,x22,x23],[x30,x31,x32,x33]] 4 3 from rfl,h3,tr4]at k3
 generalize cofQ [[x00,x01,x02,x03],[x10,x11,x12,x13],[x20,x21,x22,x23],[x30,x31,x32,x33]] 4 3=c3 at *
 rw[h3,step4]at h4
 clear h0 h1 h2 h3
 rw[h4]
 clear h4
 simp only[List.replicate,List.cons.injEq,and_true]
 refine ⟨⟨?_,?_,?_,?_⟩,⟨?_,?_,?_,?_⟩,⟨?_,?_,?_,?_⟩,⟨?_,?_,?_,?_⟩⟩<;>grind
theorem chz_all {n:Nat} {a:List (List Rat)} (hs:Sq n a) (hn:n≤4):flM a n n=List.replicate n (List.replicate n 0):=by
 obtain ⟨hl,hr⟩:=hs
 rcases n with _|_|_|_|_|n
 ·rfl
 ·obtain ⟨r0,rfl⟩:=len1 hl
  obtain ⟨x00,rfl⟩:=len1 (hr r0 (by simp))
  exact chz1 x00
 ·obtain ⟨r0,r1,rfl⟩:=len2 hl
  obtain ⟨x00,x01,rfl⟩:=len2 (hr r0 (by simp))
  obtain ⟨x10,x11,rfl⟩:=len2 (hr r1 (by simp))
  exact chz2 x00 x01 x10 x11
 ·obtain ⟨r0,r1,r2,rfl⟩:=len3 hl
  obtain ⟨x00,x01,x02,rfl⟩:=len3 (hr r0 (by simp))
  obtain ⟨x10,x11,x12,rfl⟩:=len3 (hr r1 (by simp))
  obtain ⟨x20,x21,x22,rfl⟩:=len3 (hr r2 (by simp))
  exact chz3 x00 x01 x02 x10 x11 x12 x20 x21 x22
 ·obtain ⟨r0,r1,r2,r3,rfl⟩:=len4 hl
  obtain ⟨x00,x01,x02,x03,rfl⟩:=len4 (hr r0 (by simp))
  obtain ⟨x10,x11,x12,x13,rfl⟩:=len4 (hr r1 (by simp))
  obtain ⟨x20,x21,x22,x23,rfl⟩:=len4 (hr r2 (by simp))
  obtain ⟨x30,x31,x32,x33,rfl⟩:=len4 (hr r3 (by simp))
  exact chz4 x00 x01 x02 x03 x10 x11 x12 x13 x20 x21 x22 x23 x30 x31 x32 x33
 ·omega
end Go.Eng

namespace Go.Eng
theorem nextQ_zero (now:List Rat) : ∀ (a:List (List Rat)) (b:List Rat),a.length=b.length→nextQ now 0 a b=mvQ a now
 | [],[],_=>rfl
 | r::a,y::b,h=>by
  show (dotQ r now+y*0)::nextQ now 0 a b=dotQ r now::mvQ a now
  rw[nextQ_zero now a b (by simpa using h),Rat.mul_zero,Rat.add_zero]
theorem nextQ_first (n:Nat) : ∀ (a:List (List Rat)) (b:List Rat),a.length=b.length→nextQ (List.replicate n 0) 1 a b=b
 | [],[],_=>rfl
 | r::a,y::b,h=>by
  show (dotQ r (List.replicate n 0)+y*1)::nextQ (List.replicate n 0) 1 a b=y::b
  rw[nextQ_first n a b (by simpa using h),dotQ_zerosR,Rat.mul_one,Rat.zero_add]
theorem outs_w {S:SysQ} (h:S.a.length=S.b.length) : ∀ (m j:Nat),S.outs (wQ S j) (List.replicate m 0)=(List.range m).map fun i=>dotQ S.c (wQ S (j+i))
 | 0,_=>rfl
 | m+1,j=>by
  have e:S.next (wQ S j) 0=wQ S (j+1):=nextQ_zero _ _ _ h
  rw[List.replicate_succ]
  show (dotQ S.c (wQ S j)+S.d*0)::S.outs (S.next (wQ S j) 0) (List.replicate m 0)=_
  rw[e,outs_w h m (j+1),Rat.mul_zero,Rat.add_zero,List.range_succ_eq_map,List.map_cons,List.map_map]
  congr 1
  refine List.map_congr_left fun i _ => ?_
  simp only[Function.comp]
  rw[show j+1+i=j+(i+1) by omega]
def hQ (S:SysQ):Nat→Rat
 | 0=>S.d
 | j+1=>dotQ S.c (wQ S j)
theorem imp_at {S:SysQ} {n m j:Nat} (h:S.a.length=S.b.length) (hj:j<m):(S.outs (List.replicate n 0) (impL m))[j]? = some (hQ S j):=by
 cases m with
 | zero=>omega
 | succ m =>
  show ((dotQ S.c (List.replicate n 0)+S.d*1)::S.outs (S.next (List.replicate n 0) 1) (List.replicate m 0))[j]? = _
  have e:S.next (List.replicate n 0) 1=wQ S 0:=nextQ_first n _ _ h
  rw[e,outs_w h m 0,dotQ_zerosR,Rat.mul_one,Rat.zero_add]
  cases j with
  | zero=>rfl
  | succ j =>
   rw[List.getElem?_cons_succ,List.getElem?_map,List.getElem?_range (by omega),Option.map_some,Nat.zero_add]
   rfl
theorem cut_zero {l:List Rat} : ∀ {n i:Nat},cutN l n≤i→i<n→l.getD i 0=0
 | 0,i,_,h=>by omega
 | n+1,i,h,hi=>by
  rw[cutN]at h
  split at h
  ·rename_i h0
   by_cases e:i=n
   ·subst e;exact h0
   ·exact cut_zero h (by omega)
  ·omega
theorem trimQ_getD (l:List Rat) (i:Nat):(trimQ l).getD i 0=l.getD i 0:=by
 by_cases h:i<cutN l l.length
 ·have:=cutN_le l l.length
  rw[trimQ,List.getD_eq_getElem?_getD,List.getElem?_take_of_lt h,List.getD_eq_getElem?_getD]
 ·rw[gD_ge (by rw[trimQ_len];omega)]
  by_cases h2:i<l.length
  ·exact (cut_zero (by omega) h2).symm
  ·exact (gD_ge (by omega)).symm
theorem below_getD (a:List (List Rat)) (n i:Nat) (h:i≤n):(belowQ a n n).getD i 0=cfQ a n i:=by
 cases i with
 | zero=>rfl
 | succ i =>
  rw[belowQ,List.getD_cons_succ,List.getD_eq_getElem?_getD,List.getElem?_map,List.getElem?_range (by omega)]
  rfl
theorem addP_getD (p r:List Rat) (h:r.length≤p.length) (i:Nat):(addP p r).getD i 0=p.getD i 0+r.getD i 0:=by
 by_cases hi:i<p.length
 ·exact gD_of (addP_at hi)
 ·rw[gD_ge (by rw[addP_len];omega),gD_ge (by omega),gD_ge (by omega),Rat.add_zero]
theorem smap_getD (l:List Rat) (d:Rat) (i:Nat):(l.map (· * d)).getD i 0=l.getD i 0*d:=by
 rw[List.getD_eq_getElem?_getD,List.getD_eq_getElem?_getD,List.getElem?_map]
 cases l[i]? with
 | none=>simp
 | some x=>rfl
theorem tf_law {S:SysQ} {n k:Nat} (h:S.Ok n k) (hn:n≤4) (K:Nat) (hK:K≤n+2) :
  conv (fun a=>(tfA S n).getD a 0) (hQ S) K (min (tfA S n).length (K+1))=(tfB S n).getD K 0:=by
 have hs:Sq n S.a:=⟨h.la,h.lr⟩
 have hbl:=belowQ_len S.a n n
 have hal:=aboveQ_len S n n
 have hle:(trimQ ((belowQ S.a n n).map (· * S.d))).length≤(aboveQ S n n).length:=by
  rw[trimQ_len]
  have:=cutN_le ((belowQ S.a n n).map (· * S.d)) ((belowQ S.a n n).map (· * S.d)).length
  rw[List.length_map]at this ⊢
  omega
 have hR:(tfB S n).getD K 0=(aboveQ S n n).getD K 0+(belowQ S.a n n).getD K 0*S.d:=by
  rw[tfB,trimQ_getD,addP_getD _ _ hle,trimQ_getD,smap_getD]
 have hL:conv (fun a=>(tfA S n).getD a 0) (hQ S) K (min (tfA S n).length (K+1))=conv (fun a=>(belowQ S.a n n).getD a 0) (hQ S) K (K+1):=by
  have e:conv (fun a=>(tfA S n).getD a 0) (hQ S) K (min (tfA S n).length (K+1))=conv (fun a=>(tfA S n).getD a 0) (hQ S) K (K+1):=by
   by_cases h1:(tfA S n).length≤K+1
   ·rw[Nat.min_eq_left h1]
    have:=conv_more (A:=fun a=>(tfA S n).getD a 0) (h:=hQ S) (K:=K) (m:=(tfA S n).length) (fun a ha=>gD_ge ha) (K+1-(tfA S n).length)
    rw[show (tfA S n).length+(K+1-(tfA S n).length)=K+1 by omega]at this
    exact this.symm
   ·rw[Nat.min_eq_right (by omega)]
  rw[e]
  exact conv_congr (K+1) (fun a _=>trimQ_getD _ a) fun _ _=>rfl
 have hCH:mvQ (flM S.a n n) S.b=List.replicate n 0:=by
  rw[chz_all hs hn,mvQ,List.map_replicate,dotQ_zeros]
 have hbz : ∀ a,n+1≤a→(belowQ S.a n n).getD a 0=0:=fun a ha=>gD_ge (by omega)
 rw[hL,hR]
 by_cases hKn:K≤n
 ·have e1:conv (fun a=>(belowQ S.a n n).getD a 0) (hQ S) K (K+1)=conv (cfQ S.a n) (hQ S) K (K+1):=conv_congr (K+1) (fun a ha=>below_getD _ _ _ (by omega)) fun _ _=>rfl
  rw[e1,below_getD _ _ _ hKn]
  cases K with
  | zero =>
   simp only[conv,Nat.sub_self,hQ,aboveQ,List.getD_cons_zero]
  | succ k =>
   have e2:conv (cfQ S.a n) (hQ S) (k+1) (k+1)=conv (cfQ S.a n) (fun j=>dotQ S.c (wQ S j)) k (k+1):=by
    refine conv_congr (k+1) (fun _ _=>rfl) fun a ha => ?_
    rw[show k+1-a=(k-a)+1 by omega];rfl
   have e3:=fl_conv hs h.lb k S.c h.lc
   rw[conv,e2,←e3,Nat.sub_self]
   congr 1
   rw[aboveQ,List.getD_cons_succ,List.getD_eq_getElem?_getD,List.getElem?_map,List.getElem?_range (by omega)]
   rfl
 ·rw[hbz K (by omega),gD_ge (l:=aboveQ S n n) (by omega),Rat.zero_mul,Rat.zero_add]
  obtain ⟨d,rfl⟩ : ∃ d,K=n+1+d:=⟨K-(n+1),by omega⟩
  have e0:=conv_more (A:=fun a=>(belowQ S.a n n).getD a 0) (h:=hQ S) (K:=n+1+d) (m:=n+1) hbz (d+1)
  rw[show n+1+(d+1)=n+1+d+1 by omega]at e0
  rw[e0]
  have e1:conv (fun a=>(belowQ S.a n n).getD a 0) (hQ S) (n+1+d) (n+1)=conv (cfQ S.a n) (fun j=>dotQ S.c (wQ S (j+d))) n (n+1):=by
   refine conv_congr (n+1) (fun a ha=>below_getD _ _ _ (by omega)) fun a ha => ?_
   rw[show n+1+d-a=(n-a+d)+1 by omega];rfl
  rw[e1]
  have hd:d=0∨d=1:=by omega
  rcases hd with rfl|rfl
  ·have e3:=fl_conv hs h.lb n S.c h.lc
   rw[hCH,dotQ_zerosR]at e3
   exact e3.symm
  ·have e3:=fl_conv hs h.lb n (mulRow S.c S.a n) (mulRow_len _ _ _)
   rw[hCH,dotQ_zerosR]at e3
   rw[e3]
   exact conv_congr (n+1) (fun _ _=>rfl) fun a _=>(dotQ_assoc S.a S.c hs.r).symm
end Go.Eng

namespace Go.Eng
open F
attribute [local irreducible] AKM CmpP Req OpP UnP ConvP RdP LdR StR MkR LenP AppR AppN CpyR RowP SnR Bds SlS CallP CalP FinP pw LdM GetM SetM PutM MkM AppM SnM FlP CallR
set_option maxHeartbeats 8000000
set_option maxRecDepth 8000
variable {L:Lib}
theorem respK_small5 : ∀ n,n<5 → ∀ i,i<8→respK n 9 0 i≤1000000:=by decide +kernel
theorem tf_bs {S:SysQ} {n:Nat} (h:S.Ok n 9) (hn:n≤4):Bs 60000000 (tfA S n)∧Bs 130000000 (tfB S n):=by
 have hsq:Sq n S.a:=⟨h.la,h.lr⟩
 have hbeB:Bs 60000000 (belowQ S.a n n):=by
  intro x hx
  simp only[belowQ,List.mem_cons,List.mem_map,List.mem_range]at hx
  rcases hx with rfl|⟨j,hj,rfl⟩
  ·exact Bt.one _
  ·have hKj:=flK_le j (by omega)
   exact (Ms.fl hsq h.ba hn j (by omega)).2.2.le (by omega)
 have habB:Bs 60000000 (aboveQ S n n):=by
  intro x hx
  simp only[aboveQ,List.mem_cons,List.mem_map,List.mem_range]at hx
  rcases hx with rfl|⟨j,hj,rfl⟩
  ·exact Bt.zero _
  ·have hKj:=flK_le j (by omega)
   have himb:Bs (4*(flK j+10)) (mvQ (flM S.a n j) S.b):=by
    intro x hx
    obtain ⟨r,hr,rfl⟩:=List.mem_map.1 hx
    refine (((Ms.fl hsq h.ba hn j (by omega)).1 r hr).dot h.bb).le ?_
    rw[(Sq.fl h.la j).r r hr]
    exact Nat.mul_le_mul hn (by omega)
   refine (h.bc.dot himb).le ?_
   rw[h.lc]
   have:=Nat.mul_le_mul_right (9+4*(flK j+10)+1) hn
   omega
 have hmB:Bs 60000009 ((belowQ S.a n n).map (· * S.d)):=by
  intro y hy
  obtain ⟨x,hx,rfl⟩:=List.mem_map.1 hy
  exact ((hbeB x hx).mul h.bd).le (by omega)
 refine ⟨hbeB.trim,Bs.trim ?_⟩
 intro z hz
 obtain ⟨i,hi⟩:=List.getElem?_of_mem hz
 have h1:=(List.getElem?_eq_some_iff.1 hi).1
 rw[addP_len]at h1
 rw[addP_at h1]at hi
 obtain rfl:=Option.some.inj hi
 exact ((getD_bt habB i).add (getD_bt hmB.trim i)).le (by omega)
theorem tf_len (S:SysQ) (n:Nat):(tfA S n).length≤n+1∧(tfB S n).length≤n+1:=by
 have h1:=trimQ_len (belowQ S.a n n)
 have h2:=cutN_le (belowQ S.a n n) (belowQ S.a n n).length
 have h3:=belowQ_len S.a n n
 have h4:=trimQ_len (addP (aboveQ S n n) (trimQ ((belowQ S.a n n).map (· * S.d))))
 have h5:=cutN_le (addP (aboveQ S n n) (trimQ ((belowQ S.a n n).map (· * S.d)))) (addP (aboveQ S n n) (trimQ ((belowQ S.a n n).map (· * S.d)))).length
 have h6:=addP_len (aboveQ S n n) (trimQ ((belowQ S.a n n).map (· * S.d)))
 have h7:=aboveQ_len S n n
 unfold tfA tfB
 omega
theorem conv_bt {A h:Nat→Rat} {K k j:Nat} (ha : ∀ i,Bt k (A i)) (hh : ∀ i,i≤K→Bt j (h i)) : ∀ m,Bt (m*(k+j+1)) (conv A h K m)
 | 0=>Bt.zero _
 | m+1=>by
  rw[conv,Nat.succ_mul]
  exact ((conv_bt ha hh m).add ((ha m).mul (hh (K-m) (by omega)))).le (by omega)
theorem ev_law22_NetworkTransfers (I:FixedLib L) (J:NetLib L) (W:WorldLib L) (E:LawTLib L) (l:List Int) (size:Int) (h1 : ∀ v∈l,InI v) (h2:InI size) (q0:Bool) :
  Ev L 196 [.sl q0 (l.map encInt),.int .i64 size] (.bool true):=by
 have A:TrGLib L:=E.toTrGLib
 have T:RatsGLib L:=E.toRatsGLib
 obtain ⟨g1,g2⟩:=with_range (v:=size) (m:=5) (by omega)
 have hW:=ev_world_Within W size 5 h2 (by omega)
 obtain ⟨n,hn⟩:=Int.eq_ofNat_of_zero_le g1
 rw[hn]at hW
 have hn5:n≤4:=by omega
 have hS:=fun q=>ev_System T l q n h1 (by omega)
 have hok:=(sysOf_ok l n).le (show 4≤9 by omega)
 have hkn:=ev_example I J
 have hO:=ev_r3_Of A.toRefGLib 0 (by omega)
 generalize sysOf l n=S at *
 have hT1:=ev_Transfer A S n hok hn5
 have hT2:=ev_Transfer22 A S n hok hn5
 have hK0 : ∀ i,i≤n+3→respK n 9 0 i≤1000000:=fun i hi=>respK_small5 n (by omega) i (by omega)
 have hIm:Ev L 134 [.agg (eS S),.int .i64 ((n+3:Nat):Int)] _:=ev_Impulse A.toSysGLib S n 9 (n+3) hok (by omega) (by omega) (fun i hi=>by have:=hK0 i (by omega);omega) (by omega)
 obtain ⟨u5,_⟩:=hok.outs_bs (K:=1000000) (impL (n+3)) (List.replicate n 0) 0 (by simp) (Bs.zeros _ _) (impL_bs _ _) (fun i hi=>hK0 i (by rw[impL_len]at hi;omega))
 have hHl:=outs_len S (impL (n+3)) (List.replicate n 0)
 rw[impL_len]at hHl
 have hHat : ∀ j,j<n+3→(S.outs (List.replicate n 0) (impL (n+3)))[j]? = some (hQ S j):=fun j hj=>imp_at (by rw[hok.la,hok.lb]) hj
 have hhb : ∀ j,j<n+3→Bt 1000000 (hQ S j):=fun j hj=>u5.at (hHat j hj)
 obtain ⟨bA,bB⟩:=tf_bs hok hn5
 obtain ⟨lA,lB⟩:=tf_len S n
 have hlaw:=fun K hK=>tf_law hok hn5 K hK
 have sA:=fun q q'=>ev_r5_Same A.toR05GLib q q' (tfA S n) 60000000 bA (by omega) (by omega)
 have sB:=fun q q'=>ev_r5_Same A.toR05GLib q q' (tfB S n) 130000000 bB (by omega) (by omega)
 generalize tfA S n=fA at *
 generalize tfB S n=fB at *
 generalize S.outs (List.replicate n 0) (impL (n+3))=H at *
 refine Ev.x E.law22_NetworkTransfers rfl rfl ?_
 (repeat' (first|(refine CmpP.go (fun hc => ?_) (fun hc => ?_)<;>first|(exfalso;omega)|(conv=>whnf))|(refine OpP.add ?_ ?_;omega;conv=>whnf)|(refine LenP.go ?_;conv=>whnf)|(refine AKM.x ?_;conv=>whnf)|(refine CallP.go (hW) ?_;conv=>whnf)|(refine CallP.go (hS _) ?_;conv=>whnf)|(refine CallP.go (hT1) ?_;conv=>whnf)|(refine CallP.go (hT2) ?_;conv=>whnf)|(refine CallP.go (hIm) ?_;conv=>whnf)))
 refine AKM.loop1 (fun i=>n+3-i) (fun (i:Nat)=>i≤n+3) (fun i=>[(13,.int .i64 i)]) (fun _=>[]) [] [] 0 (by (conv=>whnf);exact ⟨rfl,rfl,rfl⟩) (by omega) ?_
 intro K k1 ih
 by_cases hK:K<n+3
 ·have hlw:=hlaw K (by omega)
  (repeat' (first|(refine CmpP.go (fun hc => ?_) (fun hc => ?_)<;>first|(exfalso;omega)|(conv=>whnf))|(refine OpP.add ?_ ?_;omega;conv=>whnf)|(refine AKM.x ?_;conv=>whnf)|(refine CallP.go (hO) ?_;conv=>whnf)))
  refine AKM.loop1 (fun a=>fA.length-a) (fun (a:Nat)=>a≤min fA.length (K+1)) (fun a=>[(15,.int .i64 a)]) (fun a=>[(14,14,.bx (eQ (conv (fun i=>fA.getD i 0) (hQ S) K a)))]) [] [] 0 (by (conv=>whnf);exact ⟨rfl,rfl,rfl⟩) (by omega) ?_
  intro a r1 jh
  have bc:Bt (a*(60000000+1000000+1)) (conv (fun i=>fA.getD i 0) (hQ S) K a):=conv_bt (fun i=>getD_bt bA i) (fun i hi=>hhb i (by omega)) a
  have ha5:a*(60000000+1000000+1)≤5*(60000000+1000000+1):=Nat.mul_le_mul_right _ (by omega)
  by_cases h3:a<fA.length∧a≤K
  ·obtain ⟨x,hx⟩ : ∃ x,fA[a]? = some x:=⟨_,List.getElem?_eq_getElem h3.1⟩
   have hx':fA[(a:Int).toNat]? = some x:=hx
   have hy:=hHat (K-a) (by omega)
   have hy':H[((K:Int)-(a:Int)).toNat]? = some (hQ S (K-a)):=by rw[show ((K:Int)-(a:Int)).toNat=K-a by omega];exact hy
   have hM:=ev_mul3 A.toRefGLib (bA.at hx) (hhb (K-a) (by omega)) (by omega) (by omega)
   have hA:=ev_add3 A.toRefGLib bc ((bA.at hx).mul (hhb (K-a) (by omega))) (by omega) (by omega)
   have hnx:conv (fun i=>fA.getD i 0) (hQ S) K a+x*hQ S (K-a)=conv (fun i=>fA.getD i 0) (hQ S) K (a+1):=by rw[conv,gD_of hx]
   rw[hnx]at hA
   (repeat' (first|(refine CmpP.go (fun hc => ?_) (fun hc => ?_)<;>first|(exfalso;omega)|(conv=>whnf))|(refine OpP.add ?_ ?_;omega;conv=>whnf)|(refine OpP.sub ?_ ?_;omega;conv=>whnf)|(refine LenP.go ?_;conv=>whnf)|(refine RdP.at (by assumption) ?_ rfl ?_;omega;conv=>whnf)|(refine AKM.x ?_;conv=>whnf)|(refine CallP.go (hM) ?_;conv=>whnf)|(refine CallP.go (hA) ?_;conv=>whnf)))
   exact AKM.back [] (by (conv=>whnf);exact ⟨rfl,rfl,rfl⟩) (jh (a+1) (by omega) (by omega))
  ·obtain rfl:a=min fA.length (K+1):=by omega
   clear jh
   rw[hlw]at bc ⊢
   have hC:=ev_cmp3 A.toRefGLib bc bc (by omega) (by omega)
   rw[sgn_sub.2 rfl]at hC
   by_cases h4:K<fB.length
   ·obtain ⟨y,hyB⟩ : ∃ y,fB[K]? = some y:=⟨_,List.getElem?_eq_getElem h4⟩
    have hyB':fB[(K:Int).toNat]? = some y:=hyB
    rw[gD_of hyB]at hC ⊢
    (repeat' (first|(refine CmpP.go (fun hc => ?_) (fun hc => ?_)<;>first|(exfalso;omega)|(conv=>whnf))|(refine OpP.add ?_ ?_;omega;conv=>whnf)|(refine LenP.go ?_;conv=>whnf)|(refine RdP.at (by assumption) ?_ rfl ?_;omega;conv=>whnf)|(refine AKM.x ?_;conv=>whnf)|(refine CallP.go (hO) ?_;conv=>whnf)|(refine CallP.go (hC) ?_;conv=>whnf)))
    all_goals exact AKM.back [] (by (conv=>whnf);exact ⟨rfl,rfl,rfl⟩) (ih (K+1) (by omega) (by omega))
   ·rw[gD_ge (by omega)]at hC ⊢
    (repeat' (first|(refine CmpP.go (fun hc => ?_) (fun hc => ?_)<;>first|(exfalso;omega)|(conv=>whnf))|(refine OpP.add ?_ ?_;omega;conv=>whnf)|(refine LenP.go ?_;conv=>whnf)|(refine AKM.x ?_;conv=>whnf)|(refine CallP.go (hO) ?_;conv=>whnf)|(refine CallP.go (hC) ?_;conv=>whnf)))
    all_goals exact AKM.back [] (by (conv=>whnf);exact ⟨rfl,rfl,rfl⟩) (ih (K+1) (by omega) (by omega))
 obtain rfl:K=n+3:=by omega
 clear ih
 (repeat' (first|(refine CmpP.go (fun hc => ?_) (fun hc => ?_)<;>first|(exfalso;omega)|(conv=>whnf))|(refine OpP.add ?_ ?_;omega;conv=>whnf)|(refine AKM.x ?_;conv=>whnf)|(refine CallP.go (hkn) ?_;conv=>whnf)|(refine CallP.go (sB _ _) ?_;conv=>whnf)|(refine CallP.go (sA _ _) ?_;conv=>whnf)))
 exact FinP.b rfl
end Go.Eng

namespace Go.Eng
open Go.ChangeShapes Go.WideShapes Go.ChangeAt Go.RowKit
inductive Ty where
 | int (k:IntKind)
 | bool
 | sl (e:Ty)
 | nil
 | cons (a r:Ty)
def Ty.cells:Ty→Nat
 | .int _=>1 | .bool=>1 | .sl _=>1
 | .nil=>0
 | .cons a r=>a.cells+r.cells
def HasL:Ty→List AV→Prop
 | .int k,cs => ∃ n,cs=[.int k n]∧(Lit.int k n).wf=true
 | .bool,cs => ∃ b,cs=[.bool b]
 | .sl e,cs => ∃ es,cs=[.sl true es]∧es.length≤maxLen ∧ ∀ x∈es,HasL e x
 | .nil,cs=>cs=[]
 | .cons a r,cs => ∃ x y,cs=x++y∧HasL a x∧HasL r y
theorem HasL.len : ∀ {ty:Ty} {cs:List AV},HasL ty cs→cs.length=ty.cells
 | .int _,cs,h=>by obtain ⟨n,rfl,_⟩:=h;rfl
 | .bool,cs,h=>by obtain ⟨n,rfl⟩:=h;rfl
 | .sl _,cs,h=>by obtain ⟨n,rfl,_⟩:=h;rfl
 | .nil,cs,h=>by rw[show cs=[] from h];rfl
 | .cons a r,cs,h=>by obtain ⟨x,y,rfl,h1,h2⟩:=h;simp [Ty.cells,HasL.len h1,HasL.len h2]
def okTy (P:Program):Nat→TypeId→Ty→Bool
 | 0,_,_=>false
 | n+1,t,ty=>match P.underlying t,ty with
  | some (.int k),.int k'=>decide (k=k')
  | some .bool,.bool=>true
  | some (.slice e),.sl ty'=>okTy P n e ty'&&(P.cellsOf e == ty'.cells&&decide (0<ty'.cells))
  | some (.struct fs),ty=>go (okTy P n) fs.toList 0 ty&&P.cellsOf t == ty.cells
  | _,_=>false
where
 go (ok:TypeId→Ty→Bool):List Field→Nat→Ty→Bool
  | [],_,.nil=>true
  | f::fs,off,.cons a r=>(f.offset == off&&(ok f.type a&&P.cellsOf f.type == a.cells))&&go ok fs (off+a.cells) r
  | _,_,_=>false
section
variable {H:Type} {enc:TypeId × Value→H} {P:Program} {w:World} {base:Nat} {spare:Nat→Bool} {held:Bool} {R:Bool→Nat→Prop}
def RdL (w:World) (R:Bool→Nat→Prop) (as:List AV) (cs:List Value):Prop:=as.length=cs.length ∧ ∀ (j:Nat) (a:AV) (c:Value),as[j]? = some a→cs[j]? = some c→Rd w R a c
theorem RdL.one {a:AV} {c:Value} (h:Rd w R a c):RdL w R [a] [c]:=by
 refine ⟨rfl,fun j a' c' h1 h2 => ?_⟩
 cases j with
 | zero=>simp at h1 h2;subst h1 h2;exact h
 | succ j=>simp at h1
theorem RdL.append {as bs:List AV} {cs ds:List Value} (h1:RdL w R as cs) (h2:RdL w R bs ds):RdL w R (as++bs) (cs++ds):=by
 refine ⟨by simp [h1.1,h2.1],fun j a c ha hc => ?_⟩
 by_cases hj:j<as.length
 ·rw[List.getElem?_append_left hj]at ha
  rw[List.getElem?_append_left (by rw[←h1.1];exact hj)]at hc
  exact h1.2 j a c ha hc
 ·rw[List.getElem?_append_right (by omega)]at ha
  rw[List.getElem?_append_right (by rw[←h1.1];omega),←h1.1]at hc
  exact h2.2 _ a c ha hc
theorem add_off (a:Addr) (i:Nat) (h:a.spot=none):a.add i=⟨a.block,a.off+i,none⟩:=by
 obtain ⟨b,o,s⟩:=a
 simp only at h
 subst h
 exact add_none b o i
theorem open_go (hR : ∀ b,b<w.heap.size→R true b) (m:Nat) (ih : ∀ (ty:Ty) (t:TypeId) (cs:List Value) (fuel:Nat) (x:DataW H × List MemPlace),okTy P m t ty=true→DataW.trod enc P w base spare held fuel t cs=some x → ∃ as,HasL ty as∧RdL w R as cs)
  (n:Nat) (cs:List Value) : ∀ (fs:List Field) (off:Nat) (ty:Ty),okTy.go P (okTy P m) fs off ty=true→(∀ f∈fs,∃ y,DataW.trod enc P w base spare held n f.type ((cs.drop f.offset).take (P.cellsOf f.type))=some y)→off+ty.cells=cs.length → ∃ as,HasL ty as∧RdL w R as (cs.drop off)
 | [],off,ty,hok,_,hl=>by
  cases ty<;>simp only[okTy.go,Bool.false_eq_true]at hok
  simp only[Ty.cells]at hl
  exact ⟨[],rfl,by rw[List.drop_of_length_le (by omega)];exact ⟨rfl,fun j a c h=>by simp at h⟩⟩
 | f::fs,off,ty,hok,hf,hl=>by
  cases ty<;>simp only[okTy.go,Bool.false_eq_true,Bool.and_eq_true,beq_iff_eq]at hok
  rename_i a r
  obtain ⟨⟨h1,h2,h3⟩,h4⟩:=hok
  simp only[Ty.cells]at hl
  obtain ⟨y,hy⟩:=hf f List.mem_cons_self
  rw[h1,h3]at hy
  obtain ⟨as1,g1,g2⟩:=ih a f.type _ n y h2 hy
  obtain ⟨as2,g3,g4⟩:=open_go hR m ih n cs fs (off+a.cells) r h4 (fun f' h'=>hf f' (List.mem_cons_of_mem _ h')) (by omega)
  refine ⟨as1++as2,⟨as1,as2,rfl,g1,g3⟩,?_⟩
  have:=g2.append g4
  rwa [show (cs.drop off).take a.cells++cs.drop (off+a.cells)=cs.drop off by rw[←List.drop_drop,List.take_append_drop]]at this
theorem open_any (hR : ∀ b,b<w.heap.size→R true b) : ∀ (m:Nat) (ty:Ty) (t:TypeId) (cs:List Value) (fuel:Nat) (x:DataW H × List MemPlace),okTy P m t ty=true→DataW.trod enc P w base spare held fuel t cs=some x → ∃ as,HasL ty as∧RdL w R as cs
 | 0,_,_,_,_,_,h,_=>by simp [okTy]at h
 | m+1,ty,t,cs,fuel,x,hok,h=>by
  have ih:=open_any hR m
  simp only[okTy]at hok
  split at hok
  ·rename_i k k' hu
   obtain rfl:k=k':=by simpa using hok
   obtain ⟨n,rfl,_,hw⟩:=DataW.trod_int hu h
   exact ⟨[.int k n],⟨n,rfl,hw⟩,RdL.one (.int k n)⟩
  ·rename_i hu
   cases fuel with
   | zero=>simp [DataW.trod]at h
   | succ fuel =>
    unfold DataW.trod at h
    rw[hu]at h
    split at h<;>simp_all
    exact ⟨_,⟨_,rfl⟩,RdL.one (.bool _)⟩
  ·rename_i e ty' hu
   simp only[Bool.and_eq_true,beq_iff_eq,decide_eq_true_eq]at hok
   obtain ⟨h1,h2,h3⟩:=hok
   rcases DataW.trod_slice hu h with ⟨rfl,_⟩|⟨a,len,cap,elems,rest,n,_,rfl,_,hb,hl,hm,hlen,hel,_,_⟩
   ·exact ⟨[.sl true []],⟨[],rfl,by simp,by simp⟩,RdL.one (.sl0 true none 0)⟩
   ·have each : ∀ i,i<len → ∃ as cs',HasL ty' as∧RdL w R as cs'∧cs'.length=ty'.cells ∧ ∀ j,j<ty'.cells→w.cell? ((a.add (i*ty'.cells)).add j)=cs'[j]? := by
     intro i hi
     have:=hel i hi
     rw[h2,List.getElem?_eq_getElem (by omega),Option.bind_eq_some_iff]at this
     obtain ⟨cs',hc,ht⟩:=this
     obtain ⟨as,g1,g2⟩:=ih ty' e cs' n _ h1 ht
     obtain ⟨_,q1,q2⟩:=World.cells?_some hc
     exact ⟨as,cs',g1,g2,q1,q2⟩
    by_cases h0:len=0
    ·subst h0
     exact ⟨[.sl true []],⟨[],rfl,by simp,by simp⟩,RdL.one (.sl0 true (some a) cap)⟩
    ·have hspot:a.spot=none:=by
      obtain ⟨as,cs',_,_,q1,q2⟩:=each 0 (by omega)
      have:=q2 0 h3
      rw[List.getElem?_eq_getElem (by omega)]at this
      simpa [Addr.add] using World.cell?_spot this
     have hblk:a.block<w.heap.size:=by
      obtain ⟨as,cs',_,_,q1,q2⟩:=each 0 (by omega)
      have:=q2 0 h3
      rw[List.getElem?_eq_getElem (by omega)]at this
      simpa [Addr.add] using cell_lt this
     have pick : ∃ f:Nat→List AV × List Value,∀ i,i<len→HasL ty' (f i).1∧RdL w R (f i).1 (f i).2∧(f i).2.length=ty'.cells ∧ ∀ j,j<ty'.cells→w.cell? ((a.add (i*ty'.cells)).add j)=(f i).2[j]? := by
      refine ⟨fun i=>if hi:i<len then (Classical.choose (each i hi),Classical.choose (Classical.choose_spec (each i hi))) else ([],[]),fun i hi => ?_⟩
      simp only[hi,dif_pos]
      exact Classical.choose_spec (Classical.choose_spec (each i hi))
     obtain ⟨f,hf⟩:=pick
     have hget : ∀ i e',((List.range len).map fun i=>(f i).1)[i]? = some e'→i<len∧e'=(f i).1:=by
      intro i e' he
      rw[List.getElem?_map]at he
      by_cases hi:i<len
      ·rw[List.getElem?_range hi]at he
       simp at he
       exact ⟨hi,he.symm⟩
      ·rw[List.getElem?_eq_none (by simpa using hi)]at he
       cases he
     refine ⟨[.sl true ((List.range len).map fun i=>(f i).1)],⟨_,rfl,by simp;omega,fun x hx => ?_⟩,RdL.one ?_⟩
     ·obtain ⟨i,hi,rfl⟩:=List.mem_map.1 hx
      exact (hf i (List.mem_range.1 hi)).1
     ·obtain ⟨ab,ao,as⟩:=a
      simp only at hspot
      subst hspot
      have hlen':((List.range len).map fun i=>(f i).1).length=len:=by simp
      have:=Rd.sl (w:=w) (R:=R) true ((List.range len).map fun i=>(f i).1) ab ao ty'.cells cap (fun i j=>((f i).2[j]?).getD default) (by intro e;have:=congrArg List.length e;simp at this;omega) h3 (hR ab hblk) (by rw[hlen'];exact hl)
       (fun e' he=>by
        obtain ⟨i,hi,rfl⟩:=List.mem_map.1 he
        exact (hf i (List.mem_range.1 hi)).1.len)
       (fun i e' he j c hc=>by
        obtain ⟨hi,rfl⟩:=hget i e' he
        obtain ⟨g1,g2,g3,g4⟩:=hf i hi
        have hj:j<ty'.cells:=by
         have:=(List.getElem?_eq_some_iff.1 hc).1
         rwa [g1.len]at this
        have h5:=g4 j hj
        rw[add_off ⟨ab,ao,none⟩ (i*ty'.cells) rfl,add_off _ _ rfl]at h5
        simp only at h5
        rw[show ao+(i*ty'.cells+j)=ao+i*ty'.cells+j by omega,h5,List.getElem?_eq_getElem (by omega)]
        rfl)
       (fun i e' he j c hc=>by
        obtain ⟨hi,rfl⟩:=hget i e' he
        obtain ⟨g1,g2,g3,g4⟩:=hf i hi
        have hj:j<ty'.cells:=by
         have:=(List.getElem?_eq_some_iff.1 hc).1
         rwa [g1.len]at this
        have h6:(f i).2[j]? = some ((f i).2[j]'(by omega)):=List.getElem?_eq_getElem _
        rw[h6]
        exact g2.2 j c _ hc h6)
      rwa [hlen']at this
  ·rename_i fs hu
   simp only[Bool.and_eq_true,beq_iff_eq]at hok
   obtain ⟨h1,h2⟩:=hok
   obtain ⟨xs,n,_,_,hl,hlen,hf⟩:=DataW.trod_struct hu h
   have:=open_go hR m ih n cs fs.toList 0 _ h1 (fun f hf'=>by
    obtain ⟨i,hi,rfl⟩:=List.getElem_of_mem hf'
    have h5:=hf i fs.toList[i] (by simp)
    rw[h5,List.getElem?_eq_getElem (by simpa [hlen] using hi)]
    exact ⟨_,rfl⟩) (by rw[hl,h2];omega)
   simpa using this
  ·exact absurd hok (by simp)
theorem open_cell {S:Nat→Prop} {ty:Ty} {t:TypeId} {v:Value} {d:DataW H} {ps:List MemPlace} {m:Nat} (hok:okTy P m t ty=true) (hv:v.cells.toList=[v]) (h:DataW.Trod enc P w base spare held t v d ps) :
  ∃ a,HasL ty [a]∧CA w.heap.size S ⟨fun _ _=>none,Own.emp,w⟩ a v:=by
 obtain ⟨fuel,hf⟩:=h
 rw[hv]at hf
 obtain ⟨as,h1,h2⟩:=open_any (R:=safe w.heap.size S ⟨fun _ _=>none,Own.emp,w⟩) (fun b hb=>Or.inr (Or.inr ⟨rfl,hb⟩)) m ty t [v] fuel _ hok hf
 obtain ⟨a,rfl⟩ : ∃ a,as=[a]:=by
  have:=h2.1
  match as,this with
  | [a],_=>exact ⟨a,rfl⟩
 exact ⟨a,h1,.one (.rd (h2.2 0 a v rfl rfl))⟩
end
theorem args_nil {B:Nat} {S:Nat→Prop} {m:M} : ∀ (j:Nat) (c:AV) (v:Value),([]:List AV)[j]? = some c→([]:List Value)[j]? = some v→CA B S m c v:=fun j c v h=>by simp at h
theorem args_cons {B:Nat} {S:Nat→Prop} {m:M} {a:AV} {u:Value} {as:List AV} {us:List Value} (h:CA B S m a u) (hr : ∀ (j:Nat) (c:AV) (v:Value),as[j]? = some c→us[j]? = some v→CA B S m c v) :
  ∀ (j:Nat) (c:AV) (v:Value),(a::as)[j]? = some c→(u::us)[j]? = some v→CA B S m c v
 | 0,c,v,h1,h2=>by simp at h1 h2;subst h1 h2;exact h
 | j+1,c,v,h1,h2=>hr j c v (by simpa using h1) (by simpa using h2)
theorem law_calls {P:Program} {num:Nat→Nat} {L:Lib} (hP:ProgOK P num L) {f:Nat} {vs:List AV} (h:Ev L f vs (.bool true)) {S:Nat→Prop} {w:World} {us:List Value} (hl:vs.length=us.length)
  (ha : ∀ (j:Nat) (c:AV) (v:Value),vs[j]? = some c→us[j]? = some v→CA w.heap.size S ⟨fun _ _=>none,Own.emp,w⟩ c v) :
  Calls P (num f) us.toArray w fun e w'=>e = .returned (.bool true)∧Below w.heap.size w w':=by
 obtain ⟨n,hn⟩:=h
 refine ((calls_ok hP n).pure f vs _ hn S w us hl ha).mono ?_
 rintro e w' ⟨u,rfl,hb,hcv,_⟩
 refine ⟨?_,hb⟩
 cases hcv with
 | ca hca=>cases hca with
  | one hcc=>cases hcc with
   | rd hrd=>cases hrd;rfl
end Go.Eng

namespace Go.Eng
abbrev tI:Ty := .int .i64
end Go.Eng

namespace Go.Eng
theorem list_ofR {α:Type} {enc:α→List AV} {p:α→Prop} : ∀ {es:List (List AV)},(∀ x∈es,∃ y,x=enc y∧p y) → ∃ l:List α,es=l.map enc ∧ ∀ y∈l,p y
 | [],_=>⟨[],rfl,by simp⟩
 | e::es,h=>by
  obtain ⟨y,rfl,hy⟩:=h e List.mem_cons_self
  obtain ⟨l,rfl,hl⟩:=list_ofR (enc:=enc) (p:=p) fun x hx=>h x (List.mem_cons_of_mem _ hx)
  exact ⟨y::l,rfl,by simpa using ⟨hy,hl⟩⟩
theorem has_slR {α:Type} {enc:α→List AV} {p:α→Prop} {e:Ty} {cs:List AV} (he : ∀ x,HasL e x → ∃ y,x=enc y∧p y) (h:HasL (.sl e) cs) : ∃ l:List α,cs=[.sl true (l.map enc)]∧l.length<9223372036854775808 ∧ ∀ y∈l,p y:=by
 obtain ⟨es,rfl,hl,hx⟩:=h
 obtain ⟨l,rfl,hp⟩:=list_ofR (enc:=enc) (p:=p) fun x hm=>he x (hx x hm)
 refine ⟨l,rfl,?_,hp⟩
 have:maxLen=9223372036854775807:=rfl
 simp at hl
 omega
theorem wf_InR {n:Int} (h:(Lit.int .i64 n).wf=true):InI n:=by
 simp only[Lit.wf,Bool.and_eq_true,decide_eq_true_eq]at h
 have h1:IntKind.i64.min = -9223372036854775808:=rfl
 have h2:IntKind.i64.max=9223372036854775807:=rfl
 rw[h1,h2]at h
 unfold InI
 constructor<;>omega
theorem has_iR {cs:List AV} (h:HasL tI cs) : ∃ n,cs=encInt n∧InI n:=by obtain ⟨n,rfl,hw⟩:=h;exact ⟨n,rfl,wf_InR hw⟩
theorem has_intsR {cs:List AV} (h:HasL (.sl tI) cs) : ∃ l:List Int,cs=[.sl true (l.map encInt)]∧l.length<9223372036854775808 ∧ ∀ v∈l,InI v:=has_slR (fun _=>has_iR) h
end Go.Eng
