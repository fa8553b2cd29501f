/-
  Rational numbers as signs and lists of digits, plain.
-/
import Derived.Test.YtplhdlbnneoobaaGreatB7
import Derived.Test.YtplhdlbnneoobaaGreatB1
import Derived.Test.YtplhdlbnneoobaaGreatB3
set_option linter.unusedSimpArgs false
set_option linter.unusedVariables false
set_option linter.unnecessarySimpa false
namespace Go.c6
abbrev rQ (q1 q2 n:Bool) (m d:List Nat):List AV:=[.bool n,.sl q1 (m.map AL),.sl q2 (d.map AL)]
abbrev eQ (x:Rat):List AV:=rQ false false (decide (x.num<0)) (dg x.num.natAbs) (dg x.den)
def qv (n:Bool) (m d:List Nat):Rat:=mkRat (zv n m) (val d)
theorem F8 (x:Rat):qv (decide (x.num<0)) (dg x.num.natAbs) (dg x.den)=x:=by
 unfold qv;rw[GI,BQ,Rat.mkRat_self]
theorem wS {d:Nat} (z:Nat) (hd:d≠0):0<Nat.gcd d z:=Nat.gcd_pos_of_pos_left z (by omega)
theorem lY {z:Int} {d:Nat} (hd:d≠0):(mkRat z d).num.natAbs=z.natAbs/Nat.gcd d z.natAbs/\(mkRat z d).den=d/Nat.gcd d z.natAbs/\decide ((mkRat z d).num<0)=decide (z<0):=by
 have hg:=wS z.natAbs hd;have h1:=Rat.num_mkRat z d;have h2:=Rat.den_mkRat z d;rw[if_neg hd]at h1 h2;rw[h1,h2];obtain ⟨k,hk⟩:=Nat.gcd_dvd_right d z.natAbs;generalize hG:Nat.gcd d z.natAbs=g at *;have hz:z=(g:Int)*(z.sign*k):=by
  rw[<-Int.mul_assoc,Int.mul_comm (g:Int),Int.mul_assoc,<-Int.natCast_mul,<-hk,Int.sign_mul_natAbs]
 have e1:z/(g:Int)=z.sign*k:=by
  rw[hz,Int.mul_ediv_cancel_left _ (by omega),<-hz]
 refine ⟨?_,rfl,?_⟩
 ·rw[e1,Int.natAbs_mul,hk,Nat.mul_div_cancel_left _ hg]
  by_cases h0:z=0
  ·subst h0
   have:k=0:=by
    have h5:g*k=0:=hk.symm;rcases Nat.mul_eq_zero.1 h5 with h|h
    ·omega
    ·exact h
   subst this;simp
  ·rw[Int.natAbs_sign_of_ne_zero h0,Nat.one_mul];simp
 ·congr 1
  rw[eq_iff_iff];rw[Int.ediv_lt_iff_lt_mul (by omega),Int.zero_mul]
theorem C3 (x:Rat):AZ (.agg (eQ x)):=by
 simp only[AZ,BS,and_true,true_and];exact ⟨C2 _,C2 _⟩
theorem X5 (b w:Bool) (m d:List Nat):AZ (.agg [.bool b,.sl false (m.map AL),.sl false (d.map AL),.bool w]):=by
 simp only[AZ,BS,and_true,true_and];exact ⟨C2 _,C2 _⟩
theorem qX (b:Bool) (m:List Nat):AZ (.agg [.bool b,.sl false (m.map AL)]):=by
 simp only[AZ,BS,and_true,true_and];exact C2 _
theorem bL (b:Bool) (m d:List Nat):AZ (.agg [.bool b,.sl false (m.map AL),.sl false (d.map AL)]):=by
 simp only[AZ,BS,and_true,true_and];exact ⟨C2 _,C2 _⟩
theorem Y0 (q:Bool) (l:List Nat):XT (.sl q (l.map AL)):=by
 intro e he c hc;obtain ⟨x,_,rfl⟩:=List.mem_map.1 he;simp at hc;subst hc;rfl
theorem gH {r:AV} {K:AV->Prop} (h:JG r) (hk:K (vj r)):BU r K:=⟨Or.inl h,by rw[lO h];exact hk⟩
theorem pB {r:AV} {K:AV->Prop} (h : ¬ JG r) (hd:T3 r) (hk:K (LN r)):BU r K:=⟨Or.inr hd,by rw[lN h];exact hk⟩
theorem H7 {b w q1 q2:Bool} {m d:List Nat} {K:AV->Prop} (hk:K (.agg [.bool b,.sl true (m.map AL),.sl true (d.map AL),.bool w])):BU (.agg [.bool b,.sl q1 (m.map AL),.sl q2 (d.map AL),.bool w]) K:=by
 refine gH ?_ hk;intro c hc;simp only[List.mem_cons,List.not_mem_nil,or_false]at hc;rcases hc with rfl|rfl|rfl|rfl
 ·trivial
 ·exact Y0 _ _
 ·exact Y0 _ _
 ·trivial
theorem pC {b q1 q2:Bool} {m d:List Nat} {K:AV->Prop} (hk:K (.agg [.bool b,.sl true (m.map AL),.sl true (d.map AL)])):BU (.agg [.bool b,.sl q1 (m.map AL),.sl q2 (d.map AL)]) K:=by
 refine gH ?_ hk;intro c hc;simp only[List.mem_cons,List.not_mem_nil,or_false]at hc;rcases hc with rfl|rfl|rfl
 ·trivial
 ·exact Y0 _ _
 ·exact Y0 _ _
theorem T6 {b q1:Bool} {m:List Nat} {K:AV->Prop} (hk:K (.agg [.bool b,.sl true (m.map AL)])):BU (.agg [.bool b,.sl q1 (m.map AL)]) K:=by
 refine gH ?_ hk;intro c hc;simp only[List.mem_cons,List.not_mem_nil,or_false]at hc;rcases hc with rfl|rfl
 ·trivial
 ·exact Y0 _ _
theorem dE {a b:Int} {d e:Nat} (hd:d≠0) (he:e≠0):mkRat a d+mkRat b e=mkRat (a*e+b*d) (d*e):=Rat.mkRat_add_mkRat a b hd he
theorem zB {a b:Int} {d:Nat} (hd:d≠0):mkRat a d+mkRat b d=mkRat (a+b) d:=by
 rw[dE hd hd,<-Int.add_mul,Rat.mkRat_mul_right hd]
theorem lW (a b:Int) (d e:Nat):mkRat a d*mkRat b e=mkRat (a*b) (d*e):=Rat.mkRat_mul_mkRat a b d e
theorem zD (a:Int):mkRat a 1=(a:Rat):=by
 have h:=Rat.mkRat_self (a:Rat);rw[Rat.num_intCast,Rat.den_intCast]at h;exact h
theorem lX {z:Int} {d:Nat} (hd:d≠0):mkRat z d=0↔z=0:=Rat.mkRat_eq_zero hd
theorem zF {z:Int} {d:Nat} (hd:d≠0):o9 (mkRat z d).num=o9 z:=by
 obtain ⟨_,_,h⟩:=lY (z:=z) hd;have h0:(mkRat z d).num=0↔z=0:=by rw[Rat.num_eq_zero,lX hd]
 have h1:(mkRat z d).num<0↔z<0:=by simpa using h
 unfold o9;by_cases a:z<0
 ·rw[if_pos a,if_pos (h1.2 a)]
 ·rw[if_neg a,if_neg (λ h=>a (h1.1 h))]
  by_cases b:z=0
  ·rw[if_neg (by omega),if_neg (by have:=h0.2 b;omega)]
  ·rw[if_pos (by omega),if_pos (by have:=mt h0.1 b;have:=mt h1.1 a;omega)]
theorem Ai3 {a b:Int} {d e:Nat} (hd:d≠0) (he:e≠0) (hb:b≠0):mkRat a d/mkRat b e=mkRat (b.sign*(a*e)) (d*b.natAbs):=by
 have hbn:b.natAbs≠0:=by omega
 have h1:mkRat b e≠0:=λ h=>hb ((lX he).1 h)
 have key:mkRat (b.sign*(a*e)) (d*b.natAbs)*mkRat b e=mkRat a d:=by
  rw[lW];have e1:b.sign*(a*e)*b=a*((b.natAbs*e:Nat):Int):=by
   have:=Int.sign_mul_self b
   rw[Int.natCast_mul,<-this];grind
  rw[e1,show d*b.natAbs*e=d*(b.natAbs*e) by rw[Nat.mul_assoc]];exact Rat.mkRat_mul_right (Nat.mul_ne_zero hbn he)
 rw[<-key,Rat.mul_div_cancel h1]
theorem Rl {x y:Int} (hy:y≠0):zv (decide (x<0) != decide (y<0)) (dg x.natAbs)=y.sign*x:=by
 unfold zv;rw[BQ];rcases Int.lt_or_gt_of_ne hy with h|h
 ·rw[Int.sign_eq_neg_one_of_neg h]
  by_cases hx:x<0
  ·simp [hx,h];omega
  ·simp [hx,h];omega
 ·rw[Int.sign_eq_one_of_pos h]
  by_cases hx:x<0
  ·simp [hx,show ¬ y<0 by omega];omega
  ·simp [hx,show ¬ y<0 by omega];omega
def Bt (k:Nat) (x:Rat):Prop:=x.num.natAbs<=2^k/\x.den<=2^k
theorem Bt.le {k l:Nat} {x:Rat} (h:Bt k x) (hl:k<=l):Bt l x:=by
 have:=Nat.pow_le_pow_right (show 0<2 by omega) hl
 exact ⟨Nat.le_trans h.1 this,Nat.le_trans h.2 this⟩
theorem Bt.mk {k:Nat} {z:Int} {d:Nat} (hz:z.natAbs<=2^k) (hd:d<=2^k):Bt k (mkRat z d):=by
 by_cases h0:d=0
 ·subst h0
  rw[Rat.mkRat_zero];exact ⟨by simp,by simp;exact Nat.one_le_two_pow⟩
 ·obtain ⟨e1,e2,_⟩:=lY (z:=z) h0
  unfold Bt;rw[e1,e2];exact ⟨Nat.le_trans (Nat.div_le_self _ _) hz,Nat.le_trans (Nat.div_le_self _ _) hd⟩
theorem Bt.add {k l:Nat} {x y:Rat} (hx:Bt k x) (hy:Bt l y):Bt (k+l+1) (x+y):=by
 rw[Rat.add_def'];refine Bt.mk ?_ ?_
 ·have h1:(x.num*y.den).natAbs<=2^k*2^l:=by rw[Int.natAbs_mul,Int.natAbs_natCast];exact Nat.mul_le_mul hx.1 hy.2
  have h2:(y.num*x.den).natAbs<=2^l*2^k:=by rw[Int.natAbs_mul,Int.natAbs_natCast];exact Nat.mul_le_mul hy.1 hx.2
  rw[Nat.mul_comm (2^l)]at h2;rw[Nat.pow_succ,Nat.pow_add];have h3:=Int.natAbs_add_le (x.num*y.den) (y.num*x.den);omega
 ·rw[Nat.pow_succ,Nat.pow_add]
  have:=Nat.mul_le_mul hx.2 hy.2
  omega
theorem Bt.mul {k l:Nat} {x y:Rat} (hx:Bt k x) (hy:Bt l y):Bt (k+l) (x*y):=by
 rw[Rat.mul_def'];refine Bt.mk ?_ ?_
 ·rw[Int.natAbs_mul,Nat.pow_add];exact Nat.mul_le_mul hx.1 hy.1
 ·rw[Nat.pow_add];exact Nat.mul_le_mul hx.2 hy.2
theorem Bt.zero (k:Nat):Bt k 0:=⟨by simp,by simp;exact Nat.one_le_two_pow⟩
theorem Bt.one (k:Nat):Bt k 1:=⟨by simp;exact Nat.one_le_two_pow,by simp;exact Nat.one_le_two_pow⟩
theorem Bt.Rs {k n:Nat} {x:Rat} (h:Bt k x) (hn:k<32*n):Sm n (dg x.num.natAbs)/\Sm n (dg x.den):=by
 have e:2^k<4294967296^n:=by
  rw[show 4294967296=2^32 from rfl,<-Nat.pow_mul];exact (Nat.pow_lt_pow_iff_right (by omega)).2 hn
 exact ⟨Sm.dg (Nat.lt_of_le_of_lt h.1 e),Sm.dg (Nat.lt_of_le_of_lt h.2 e)⟩
def Bs (k:Nat) (l:List Rat):Prop := ∀ x∈l,Bt k x
theorem Bs.at {k:Nat} {l:List Rat} (h:Bs k l) {i:Nat} {x:Rat} (hx:l[i]? = some x):Bt k x:=h x (zM hx)
theorem Bs.le {k j:Nat} {l:List Rat} (h:Bs k l) (hj:k<=j):Bs j l:=λ x hx=>(h x hx).le hj
theorem Bs.take {k:Nat} {l:List Rat} (h:Bs k l) (n:Nat):Bs k (l.take n):=λ x hx=>h x (List.mem_of_mem_take hx)
def A3:List Rat->List Rat->Rat
 | x::xs,y::ys=>x*y+A3 xs ys
 | _,_=>0
theorem YG (l:List Rat):A3 l []=0:=by cases l<;>rfl
theorem sS : ∀ {a b:List Rat} {x y:Rat},a.length=b.length->A3 (a++[x]) (b++[y])=A3 a b+x*y
 | [],[],x,y,_=>by show x*y+0=0+x*y;rw[Rat.add_zero,Rat.zero_add]
 | p::a,q::b,x,y,h=>by
  show p*q+A3 (a++[x]) (b++[y])=p*q+A3 a b+x*y;rw[sS (by simpa using h),Rat.add_assoc]
theorem YH {a b:List Rat} {i:Nat} {x y:Rat} (hx:a[i]? = some x) (hy:b[i]? = some y):A3 (a.take (i+1)) (b.take (i+1))=A3 (a.take i) (b.take i)+x*y:=by
 have h1:=(zS hx).1;have h2:=(zS hy).1;rw[List.take_add_one,List.take_add_one,hx,hy,Option.toList_some,Option.toList_some,sS (by rw[List.length_take,List.length_take];omega)]
theorem cC {a b:List Rat} {n:Nat} (h:a.length=n):A3 (a.take n) (b.take n)=A3 a b:=by
 subst h;rw[zT (Nat.le_refl _)];induction a generalizing b with
 | nil=>cases b<;>rfl
 | cons x a ih=>cases b with
  | nil=>rfl
  | cons y b=>simp only[List.length_cons,List.take_succ_cons,A3,ih]
theorem Bs.dot {k l:Nat} : ∀ {a b:List Rat},Bs k a->Bs l b->Bt (a.length*(k+l+1)) (A3 a b)
 | [],b,_,_=>by cases b<;>exact Bt.zero _
 | x::a,[],_,_=>Bt.zero _
 | x::a,y::b,ha,hb=>by
  have h1:=(ha x (by simp)).mul (hb y (by simp));have h2:=Bs.dot (a:=a) (b:=b) (λ z hz=>ha z (by simp [hz])) (λ z hz=>hb z (by simp [hz]));refine (h1.add h2).le ?_;rw[List.length_cons,Nat.succ_mul];omega
def KC (a b:List Rat):List Rat:=List.zipWith (· + ·) a b
theorem cB : ∀ {a u v:List Rat},u.length=v.length->A3 a (KC u v)=A3 a u+A3 a v
 | [],_,_,_=>by simp only[A3];rw[Rat.add_zero]
 | x::a,[],[],_=>by simp only[KC,List.zipWith_nil_left,A3];rw[Rat.add_zero]
 | x::a,p::u,q::v,h=>by
  show x*(p+q)+A3 a (KC u v)=_;rw[cB (by simpa using h)];simp only[A3];grind
structure FE where
 a:List (List Rat)
 b:List Rat
 c:List Rat
 d:Rat
structure FE.Ok (S:FE) (n k:Nat):Prop where
 la:S.a.length=n
 lr : ∀ r∈S.a,r.length=n
 lb:S.b.length=n
 lc:S.c.length=n
 ba : ∀ r∈S.a,Bs k r
 bb:Bs k S.b
 bc:Bs k S.c
 bd:Bt k S.d
def B8 (n:Nat) (j:Int):List Rat:=(List.range n).map λ i:Nat=>if (i:Int)=j then 1 else 0
theorem TW (n:Nat) (j:Int):(B8 n j).length=n:=by simp [B8]
theorem Alv (n:Nat) (j:Int):B8 (n+1) j=B8 n j++[if (n:Int)=j then 1 else 0]:=by simp [B8,List.range_succ]
abbrev eO:Option Rat->List AV
 | none=>[.bool false,.nil,.nil]
 | some x=>eQ x
def DX (l:List Rat) (m:Nat):List (Option Rat):=l.map some++List.replicate (m-l.length) none
theorem WK (m:Nat):DX [] m=List.replicate m none:=by simp [DX]
theorem SA {l:List Rat} {m:Nat} (h:l.length<=m):(DX l m).length=m:=by simp [DX];omega
theorem UU {l:List Rat} {m:Nat} {x:Rat} (h:l.length<m):(DX l m).set l.length (some x)=DX (l++[x]) m:=by
 unfold DX;have e:m-l.length=(m-(l++[x]).length)+1:=by simp;omega
 rw[e,List.replicate_succ,List.set_append_right _ _ (by simp)];simp
theorem WJ {l:List Rat} {m:Nat} (h:l.length=m):(DX l m).map eO=l.map eQ:=by
 unfold DX;rw[h,Nat.sub_self];simp [Function.comp_def]
abbrev eS (S:FE):List AV:=[.sl false (S.a.map λ r=>[AV.sl false (r.map eQ)]),.sl false (S.b.map eQ),.sl false (S.c.map eQ)]++eQ S.d
theorem KS (l:List Rat):EV (l.map eQ):=S7 (λ x=>by simp only[BS,AZ,and_true,true_and];exact ⟨C2 _,C2 _⟩) l
theorem Alf {l:List Rat} {i:Nat} {x:Rat} (h:l[i]? = some x):l.take (i+1)=l.take i++[x]:=by
 rw[List.take_add_one,h];rfl
theorem X7 (S:FE):AZ (.agg (eS S)):=by
 have h:EV (S.a.map λ r=>[AV.sl false (r.map eQ)]):=S7 (λ r=>by simp only[BS,AZ,and_true,true_and];exact KS r) S.a;simp only[AZ,List.cons_append,List.nil_append,BS,and_true,true_and];exact ⟨h,KS _,KS _,C2 _,C2 _⟩
def CD (vals:List Rat):List (Int × Int)->Rat
 | []=>0
 | t::ts=>(t.2:Rat)*vals.getD t.1.toNat 0+CD vals ts
theorem Qy (vals:List Rat) (t:Int × Int) : ∀ ts,CD vals (ts++[t])=CD vals ts+(t.2:Rat)*vals.getD t.1.toNat 0
 | []=>by simp only[List.nil_append,CD];grind
 | u::ts=>by simp only[List.cons_append,CD];rw[Qy vals t ts];grind
theorem Qz {vals:List Rat} {ts:List (Int × Int)} {i:Nat} {t:Int × Int} (h:ts[i]? = some t):CD vals (ts.take (i+1))=CD vals (ts.take i)+(t.2:Rat)*vals.getD t.1.toNat 0:=by
 rw[List.take_add_one,h,Option.toList_some,Qy]
def DW (u:Rat) (ex:Int):Nat->List Rat->List (List (Int × Int))->List Rat
 | _,vals,[]=>vals
 | k,vals,ts::r=>DW u ex (k+1) (vals++[CD vals ts/u+(if (k:Int)=ex then 1 else 0)]) r
theorem YU (u:Rat) (ex:Int) : ∀ (k:Nat) (vals:List Rat) (l:List (List (Int × Int))),(DW u ex k vals l).length=vals.length+l.length
 | _,_,[]=>rfl
 | k,vals,ts::r=>by rw[DW,YU u ex (k+1)];simp;omega
theorem Bs.getD {k:Nat} {l:List Rat} (h:Bs k l) (i:Nat):Bt k (l.getD i 0):=by
 rw[List.getD_eq_getElem?_getD];cases e:l[i]? with
 | none=>exact Bt.zero k
 | some x=>exact h.at e
theorem Bs.sum {k j:Nat} {vals:List Rat} (hv:Bs k vals) : ∀ (ts:List (Int × Int)),(∀ t∈ts,Bt j ((t.2:Int):Rat))->Bt (ts.length*(j+k+1)) (CD vals ts)
 | [],_=>Bt.zero _
 | t::ts,h=>by
  have h1:=(h t (by simp)).mul (hv.getD t.1.toNat);have h2:=Bs.sum hv ts (λ u hu=>h u (by simp [hu]));refine (h1.add h2).le ?_;rw[List.length_cons,Nat.succ_mul];omega
def QN (C:List (List Rat)) (z vals:List Rat):Prop := ∀ m,m<vals.length->vals.getD m 0=A3 (C.map λ c=>c.getD m 0) z
theorem jG (x:Rat) : ∀ (a z:List Rat),A3 (a.map λ c=>x*c) z=x*A3 a z
 | [],z=>by cases z<;>simp [A3]
 | p::a,[]=>by simp [A3]
 | p::a,q::z=>by
  simp only[List.map_cons,A3];rw[jG x a z];grind
theorem sQ {α:Type} (f g:α->Rat) : ∀ (a:List α) (z:List Rat),A3 (a.map λ c=>f c+g c) z=A3 (a.map f) z+A3 (a.map g) z
 | [],z=>by cases z<;>(simp only[List.map_nil,A3];grind)
 | p::a,[]=>by simp only[List.map_cons,A3];grind
 | p::a,q::z=>by
  simp only[List.map_cons,A3];rw[sQ f g a z];grind
theorem sU {α:Type} : ∀ (a:List α) (z:List Rat),A3 (a.map λ_=>(0:Rat)) z=0
 | [],z=>by cases z<;>rfl
 | p::a,[]=>rfl
 | p::a,q::z=>by
  simp only[List.map_cons,A3];rw[sU a z];grind
theorem QN.sum {C:List (List Rat)} {z vals:List Rat} (h:QN C z vals) : ∀ (ts:List (Int × Int)),(∀ t∈ts,t.1.toNat<vals.length)->CD vals ts=A3 (C.map λ c=>CD c ts) z
 | [],_=>(sU C z).symm
 | t::ts,ht=>by
  simp only[CD];rw[sQ (λ c=>(t.2:Rat)*c.getD t.1.toNat 0) (λ c=>CD c ts),<-QN.sum h ts (λ u hu=>ht u (by simp [hu])),h _ (ht t (by simp))];have:=jG (t.2:Rat) (C.map λ c=>c.getD t.1.toNat 0) z
  rw[List.map_map]at this;rw[<-this];rfl
theorem WN {l:List Rat} {x:Rat} {m:Nat} (h:m<l.length):(l++[x]).getD m 0=l.getD m 0:=by
 rw[List.getD_eq_getElem?_getD,List.getD_eq_getElem?_getD,List.getElem?_append_left h]
theorem WM {l:List Rat} {x:Rat} {m:Nat} (h:m=l.length):(l++[x]).getD m 0=x:=by
 subst h;rw[List.getD_eq_getElem?_getD,List.getElem?_append_right (Nat.le_refl _)];simp
theorem QN.all {u:Rat} (hu:u≠0) {z:List Rat} : ∀ (l:List (List (Int × Int))) (k:Nat) (C:List (List Rat)) (vals:List Rat),QN C z vals->(∀ c∈C,c.length=vals.length)->(∀ i ts,l[i]? = some ts -> ∀ t∈ts,t.1.toNat<vals.length+i) ->
  QN (C.map λ c=>DW u (-1) k c l) z (DW u (-1) k vals l)
 | [],_,C,vals,h,_,_=>by
  have e:(C.map λ c=>DW u (-1) 0 c [])=C:=by
   simp [DW]
  simpa [DW] using h
 | ts::l,k,C,vals,h,hc,ht=>by
  have dd:=ht 0 ts rfl;have e0 : ¬ (k:Int) = -1:=by omega
  simp only[DW,if_neg e0,Rat.add_zero];have hs:=h.sum ts (λ t h1=>by have:=dd t h1;omega);have ah:QN (C.map λ c=>c++[CD c ts/u]) z (vals++[CD vals ts/u]):=by
   intro m hm;simp only[List.length_append,List.length_cons,List.length_nil]at hm;rw[List.map_map];by_cases bh:m<vals.length
   ·rw[WN bh,h m bh]
    congr 1;refine List.map_congr_left λ c kf => ?_
    simp only[Function.comp];rw[WN (by rw[hc c kf];exact bh)]
   ·rw[WM (by omega)]
    have e1:(C.map ((λ c=>c.getD m 0) ∘ λ c=>c++[CD c ts/u]))=C.map λ c=>u⁻¹*CD c ts:=by
     refine List.map_congr_left λ c kf => ?_
     simp only[Function.comp];rw[WM (by rw[hc c kf];omega),Rat.div_def,Rat.mul_comm]
    rw[e1,hs,Rat.div_def,Rat.mul_comm];have:=jG u⁻¹ (C.map λ c=>CD c ts) z
    rw[List.map_map]at this;rw[<-this];rfl
  have ih:=QN.all hu l (k+1) (C.map λ c=>c++[CD c ts/u]) (vals++[CD vals ts/u]) ah (λ c kf=>by
   obtain ⟨c0,h0,rfl⟩:=List.mem_map.1 kf;simp [hc c0 h0]) (λ i ts2 h2 t h3=>by
   have:=ht (i+1) ts2 h2 t h3
   simp;omega)
  rw[List.map_map]at ih;exact ih
def gS:Nat->Nat
 | 0=>0
 | i+1=>5*gS i+150
theorem Ahy (i:Nat):gS i<=gS (i+1):=by rw[gS];omega
theorem Bt.ofInt {k:Nat} {z:Int} (h:z.natAbs<=2^k):Bt k ((z:Int):Rat):=⟨by rw[Rat.num_intCast];exact h,by rw[Rat.den_intCast];exact Nat.one_le_two_pow⟩
theorem Bt.tu {k j:Nat} {x:Rat} {z:Int} (h:Bt k x) (hz:1<=z) (hj:z.natAbs<=2^j):Bt (k+j) (x/(z:Rat)):=by
 obtain ⟨d,rfl⟩:=Int.eq_ofNat_of_zero_le (show 0<=z by omega);have e:x/((d:Int):Rat)=x*mkRat 1 d:=by
  rw[Rat.div_def,Rat.mkRat_eq_div,Rat.div_def];congr 1;rw[show ((1:Int):Rat)=1 from rfl,Rat.one_mul];rfl
 rw[e];exact h.mul (Bt.mk (by simp;exact Nat.one_le_two_pow) (by simpa using hj))
structure RY (l:List (List (Int × Int))):Prop where
 len : ∀ ts∈l,ts.length<=5
 cf : ∀ ts∈l,∀ t∈ts,t.2.natAbs<=2^24
theorem Ajm {ts:List (Int × Int)} {vals:List Rat} {k:Nat} {z:Int} (h1:ts.length<=5) (h2 : ∀ t∈ts,t.2.natAbs<=2^24) (hv:Bs k vals) (hz:1<=z) (ox:z.natAbs<=2^24) (b:Bool):Bt (5*k+150) (CD vals ts/(z:Rat)+(if b=true then 1 else 0)):=by
 have a1:=hv.sum ts (j:=24) (λ t ht=>Bt.ofInt (h2 t ht));have a2:Bt (5*(24+k+1)) (CD vals ts):=a1.le (zR _ h1);have a3:=a2.tu hz ox;have a4:Bt 0 (if b=true then (1:Rat) else 0):=by cases b<;>first|exact Bt.zero 0|exact Bt.one 0
 exact (a3.add a4).le (by omega)
theorem vV {z ex:Int} (hz:1<=z) (ox:z.natAbs<=2^24) : ∀ (l:List (List (Int × Int))) (k:Nat) (vals:List Rat),RY l->Bs (gS k) vals->Bs (gS (k+l.length)) (DW (z:Rat) ex k vals l)
 | [],k,vals,_,hv=>hv
 | ts::l,k,vals,h,hv=>by
  have h1:=Ajm (h.len ts (by simp)) (h.cf ts (by simp)) hv hz ox (decide ((k:Int)=ex));simp only[decide_eq_true_eq]at h1;rw[DW,List.length_cons,show k+(l.length+1)=k+1+l.length by omega];refine vV hz ox l (k+1) _ ⟨λ t ht=>h.len t (by simp [ht]),λ t ht=>h.cf t (by simp [ht])⟩ ?_;intro x hx;rcases List.mem_append.1 hx with hx|hx
  ·exact (hv x hx).le (Ahy k)
  ·simp only[List.mem_singleton]at hx
   rw[hx];exact h1
theorem kG (u:Rat) (ex:Int) (vals:List Rat) (l:List (List (Int × Int))) (i:Nat) (ts:List (Int × Int)) (h:l[i]? = some ts):DW u ex 0 vals (l.take (i+1))=DW u ex 0 vals (l.take i)++[CD (DW u ex 0 vals (l.take i)) ts/u+(if (i:Int)=ex then 1 else 0)]:=by
 have key : ∀ (l:List (List (Int × Int))) (k:Nat) (vals:List Rat) (ts:List (Int × Int)),DW u ex k vals (l++[ts])=DW u ex k vals l++[CD (DW u ex k vals l) ts/u+(if ((k+l.length:Nat):Int)=ex then 1 else 0)]:=by
  intro l;induction l with
  | nil=>intro k vals ts;simp [DW]
  | cons a l ih =>
   intro k vals ts;rw[List.cons_append,DW,ih,DW,List.length_cons,show k+1+l.length=k+(l.length+1) by omega]
 have hi:=(zS h).1;rw[List.take_add_one,h,Option.toList_some,key,List.length_take,Nat.min_eq_left (by omega),Nat.zero_add]
def C9 (m:List (List Rat)) (j:Nat):List Rat:=m.map λ r=>r.getD j 0
def EZ (r:List Rat) (m:List (List Rat)) (n:Nat):List Rat:=(List.range n).map λ j=>A3 r (C9 m j)
def HF (a m:List (List Rat)) (n:Nat):List (List Rat):=a.map λ r=>EZ r m n
def DB (m:List (List Rat)) (b:List Rat):List Rat:=m.map λ r=>A3 r b
theorem Aeq (m:List (List Rat)) (j:Nat):(C9 m j).length=m.length:=by simp [C9]
theorem zK (r:List Rat) (m:List (List Rat)) (n:Nat):(EZ r m n).length=n:=by simp [EZ]
theorem Ai9 (a m:List (List Rat)) (n:Nat):(HF a m n).length=a.length:=by simp [HF]
theorem WY (m:List (List Rat)) (b:List Rat):(DB m b).length=m.length:=by simp [DB]
structure Sq (n:Nat) (m:List (List Rat)):Prop where
 l:m.length=n
 r : ∀ r∈m,r.length=n
theorem Sq.at {n:Nat} {m:List (List Rat)} (h:Sq n m) {i:Nat} {r:List Rat} (hr:m[i]? = some r):r.length=n:=h.r r (zM hr)
theorem Sq.mul {n:Nat} {a:List (List Rat)} (h:a.length=n) (m:List (List Rat)):Sq n (HF a m n):=by
 refine ⟨by rw[Ai9,h],λ r hr => ?_⟩;obtain ⟨x,_,rfl⟩:=List.mem_map.1 hr;exact zK _ _ _
def Ms (k:Nat) (m:List (List Rat)):Prop := ∀ r∈m,Bs k r
theorem Ms.at {k:Nat} {m:List (List Rat)} (h:Ms k m) {i:Nat} {r:List Rat} (hr:m[i]? = some r):Bs k r:=h r (zM hr)
theorem Ms.Hm {k:Nat} {m:List (List Rat)} (h:Ms k m) (j:Nat):Bs k (C9 m j):=by
 intro x hx;obtain ⟨r,hr,rfl⟩:=List.mem_map.1 hx;rw[List.getD_eq_getElem?_getD];cases e:r[j]? with
 | none=>exact Bt.zero k
 | some x=>exact (h r hr).at e
theorem TA : ∀ a b:List Rat,A3 a b=A3 b a
 | [],[]=>rfl
 | [],_::_=>rfl
 | _::_,[]=>rfl
 | x::a,y::b=>by simp only[A3,TA a b,Rat.mul_comm]
theorem jH : ∀ (v:List Rat) (n:Nat),A3 (List.replicate n 0) v=0
 | [],n=>YG _
 | y::v,0=>rfl
 | y::v,n+1=>by rw[List.replicate_succ];simp only[A3,jH v n];grind
theorem sR (x:Rat) : ∀ a b:List Rat,A3 (a.map (x * ·)) b=x*A3 a b
 | [],_=>by simp [A3]
 | _::_,[]=>by simp [A3]
 | p::a,q::b=>by simp only[List.map_cons,A3,sR x a b];grind
theorem Ajc (u:List Rat) (n:Nat):EZ u [] n=List.replicate n 0:=by
 refine List.ext_getElem? λ j => ?_
 simp only[EZ,C9,List.map_nil,YG,List.getElem?_map,List.getElem?_replicate];by_cases h:j<n
 ·rw[List.getElem?_range h,if_pos h];rfl
 ·rw[List.getElem?_eq_none (by simp;omega),if_neg h];rfl
theorem Ajd (m:List (List Rat)) (n:Nat):EZ [] m n=List.replicate n 0:=by
 refine List.ext_getElem? λ j => ?_
 simp only[EZ,A3,List.getElem?_map,List.getElem?_replicate];by_cases h:j<n
 ·rw[List.getElem?_range h,if_pos h];rfl
 ·rw[List.getElem?_eq_none (by simp;omega),if_neg h];rfl
theorem Ajb (x:Rat) (u r:List Rat) (m:List (List Rat)) (n:Nat) (hr:r.length=n):EZ (x::u) (r::m) n=KC (r.map (x * ·)) (EZ u m n):=by
 refine List.ext_getElem? λ j => ?_
 simp only[EZ,KC,List.getElem?_map,List.getElem?_zipWith];by_cases h:j<n
 ·rw[List.getElem?_range h]
  obtain ⟨y,hy⟩ : ∃ y,r[j]? = some y:=⟨_,zE (by omega)⟩;rw[hy];simp only[Option.map_some,C9,List.map_cons,A3,List.getD_eq_getElem?_getD,hy,Option.getD_some]
 ·rw[List.getElem?_eq_none (by simp;omega),List.getElem?_eq_none (l:=r) (by omega)]
  rfl
theorem sP {n:Nat} {v:List Rat} : ∀ (m:List (List Rat)) (u:List Rat),(∀ r∈m,r.length=n)->A3 (EZ u m n) v=A3 u (DB m v)
 | [],u,_=>by rw[Ajc,jH,DB,List.map_nil,YG]
 | r::m,[],_=>by rw[Ajd,jH];rfl
 | r::m,x::u,h=>by
  have hr:=h r (by simp);rw[Ajb x u r m n hr,TA,cB (by rw[List.length_map,zK];exact hr),TA v,TA v,sR,sP m u λ r hr=>h r (by simp [hr])];rfl
theorem Ajf {n:Nat} (a m:List (List Rat)) (v:List Rat) (h : ∀ r∈m,r.length=n):DB (HF a m n) v=DB a (DB m v):=by
 simp only[DB,HF,List.map_map];exact List.map_congr_left λ r _=>sP m r h
def wQ (S:FE):Nat->List Rat
 | 0=>S.b
 | j+1=>DB S.a (wQ S j)
def conv (A h:Nat->Rat) (K:Nat):Nat->Rat
 | 0=>0
 | a+1=>conv A h K a+A a*h (K-a)
def B4 (f:Nat->Rat):Nat->Rat
 | 0=>0
 | n+1=>B4 f n+f n
theorem oB {f g:Nat->Rat} : ∀ n,(∀ j,j<n->f j=g j)->B4 f n=B4 g n
 | 0,_=>rfl
 | n+1,h=>by rw[B4,B4,oB n λ j hj=>h j (by omega),h n (by omega)]
theorem cD (x:Rat) : ∀ a b:List Rat,A3 (a.map (· * x)) b=A3 a b*x
 | [],b=>by simp [A3]
 | a::l,[]=>by rw[YG,YG,Rat.zero_mul]
 | a::l,b::k=>by
  simp only[List.map_cons,A3,cD x l k];grind
end Go.c6
namespace Go.c6
theorem Bt.Lw {k:Nat} {y:Rat} (h:Bt k y):Bt k y⁻¹:=by
 rw[Rat.inv_def];rcases Int.natAbs_eq y.num with e|e
 ·rw[e,Rat.divInt_ofNat]
  exact Bt.mk (by simpa using h.2) h.1
 ·rw[e,Rat.divInt_neg',Rat.divInt_ofNat]
  exact Bt.mk (by simpa using h.2) h.1
theorem Bt.od {k l:Nat} {x y:Rat} (hx:Bt k x) (hy:Bt l y):Bt (k+l) (x/y):=by
 rw[Rat.div_def];exact hx.mul hy.Lw
theorem Bt.Ew {k:Nat} {x:Rat} (h:Bt k x):Bt k (-x):=⟨by rw[Rat.neg_num,Int.natAbs_neg];exact h.1,by rw[Rat.neg_den];exact h.2⟩
def ZW (s x:Rat):Rat:=s*(((s*x).den:Nat):Rat)
def HH (r:List Rat):Rat:=r.foldl ZW 1
theorem Akw (r:List Rat) (x:Rat):HH (r++[x])=ZW (HH r) x:=by rw[HH,List.foldl_append];rfl
theorem Aje {a b c:Rat} (h:c≠0) (e:a*c=b*c):a=b:=by
 have h1:=Rat.mul_inv_cancel c h;have:a*c*c⁻¹=b*c*c⁻¹:=by rw[e]
 rwa [Rat.mul_assoc,Rat.mul_assoc,h1,Rat.mul_one,Rat.mul_one]at this
section
variable {m0 m:List (List Rat)} {K W Atp c:Nat} {P:List Nat} {odd:Bool} {l:Rat}
end
end Go.c6

namespace Go.c6
structure Pt where
 x:Rat
 y:Rat
 w:Rat
def Ala (g:List Pt) (f:Pt->Rat):Rat:=g.foldl (λ s p=>s+f p) 0
def rhs (g:List Pt) (k:Nat):Rat:=Ala g λ p=>p.w*p.x^k*p.y
def Wh (k:Nat) (x:Rat):Prop := ∃ z:Int,x=(z:Rat)/\z.natAbs<=2^k
theorem Wh.le {k l:Nat} {x:Rat} (h:Wh k x) (hl:k<=l):Wh l x:=by
 obtain ⟨z,e,b⟩:=h;exact ⟨z,e,Nat.le_trans b (Nat.pow_le_pow_right (by omega) hl)⟩
theorem Wh.mul {k l:Nat} {x y:Rat} (hx:Wh k x) (hy:Wh l y):Wh (k+l) (x*y):=by
 obtain ⟨z,rfl,b⟩:=hx;obtain ⟨u,rfl,c⟩:=hy;exact ⟨z*u,by rw[Rat.intCast_mul],by rw[Int.natAbs_mul,Nat.pow_add];exact Nat.mul_le_mul b c⟩
theorem Wh.add {k:Nat} {x y:Rat} (hx:Wh k x) (hy:Wh k y):Wh (k+1) (x+y):=by
 obtain ⟨z,rfl,b⟩:=hx;obtain ⟨u,rfl,c⟩:=hy;refine ⟨z+u,by rw[Rat.intCast_add],?_⟩;rw[Nat.pow_succ];have:=Int.natAbs_add_le z u
 omega
theorem Wh.zero (k:Nat):Wh k 0:=⟨0,rfl,Nat.zero_le _⟩
theorem Wh.bt {k:Nat} {x:Rat} (h:Wh k x):Bt k x:=by
 obtain ⟨z,rfl,b⟩:=h;exact Bt.ofInt b
theorem Wh.dot {k l:Nat} : ∀ {a b:List Rat},(∀ x∈a,Wh k x)->(∀ x∈b,Wh l x)->Wh (k+l+a.length) (A3 a b)
 | [],b,_,_=>by cases b<;>exact Wh.zero _
 | x::a,[],_,_=>Wh.zero _
 | x::a,y::b,ha,hb=>by
  rw[A3,List.length_cons,<-Nat.add_assoc];exact (((ha x List.mem_cons_self).mul (hb y List.mem_cons_self)).le (by omega)).add (Wh.dot (λ z hz=>ha z (List.mem_cons_of_mem _ hz)) λ z hz=>hb z (List.mem_cons_of_mem _ hz))
theorem U4 (y:Rat):y*(y.den:Rat)=(y.num:Rat):=by
 have h:=Rat.num_divInt_den y;rw[Rat.divInt_eq_div]at h;have h0:((y.den:Int):Rat)≠0:=λ e=>by
  have:((y.den:Int):Rat)=((0:Int):Rat):=e
  have:=Rat.intCast_inj.1 this
  have:=y.den_pos
  omega
 have h2:=Rat.div_mul_cancel h0 (a:=(y.num:Rat));rw[h,Rat.intCast_natCast]at h2;exact h2
theorem iW {y:Rat} {T:Nat} {z:Int} (h:(T:Rat)*y=(z:Rat)):y.den ∣ T:=by
 have h1:y*(y.den:Rat)=(y.num:Rat):=U4 y;have h2:(((T:Int)*y.num:Int):Rat)=((z*(y.den:Int):Int):Rat):=by
  rw[Rat.intCast_mul,Rat.intCast_mul,<-h1,<-h,Rat.intCast_natCast,Rat.intCast_natCast,Rat.mul_assoc]
 have h3:=Rat.intCast_inj.1 h2;have h4:(y.den:Int) ∣ (T:Int)*y.num:=⟨z,by rw[h3,Int.mul_comm]⟩;have h5:y.den ∣ T*y.num.natAbs:=by
  have:=Int.natAbs_dvd_natAbs.2 h4
  simpa [Int.natAbs_mul] using this
 exact Nat.Coprime.dvd_of_dvd_mul_right (Nat.Coprime.symm y.reduced) h5
theorem xY {α:Type} {l:List α} (h:l.length=1) : ∃ a,l=[a]:=by
 rcases l with _|⟨a,_|⟨b,l⟩⟩<;>simp at h
 exact ⟨a,rfl⟩
def F4 (u:Rat) (ex:Int):Nat->List Rat->List (List (Int × Int))->List Rat
 | _,vals,[]=>vals
 | k,vals,ts::r=>F4 u ex (k+1) (vals++[if (k:Int)=ex then 1 else CD vals ts*u]) r
theorem kV (u:Rat) (ex:Int) : ∀ (k:Nat) (vals:List Rat) (l:List (List (Int × Int))),(F4 u ex k vals l).length=vals.length+l.length
 | _,vals,[]=>by simp [F4]
 | k,vals,ts::r=>by rw[F4,kV u ex (k+1)];simp;omega
theorem AhE (u:Rat) (ex:Int) (vals:List Rat) (l:List (List (Int × Int))) (i:Nat) (ts:List (Int × Int)) (h:l[i]? = some ts):F4 u ex 0 vals (l.take (i+1))=F4 u ex 0 vals (l.take i)++[if (i:Int)=ex then 1 else CD (F4 u ex 0 vals (l.take i)) ts*u]:=by
 have key : ∀ (l:List (List (Int × Int))) (k:Nat) (vals:List Rat) (ts:List (Int × Int)),F4 u ex k vals (l++[ts])=F4 u ex k vals l++[if ((k+l.length:Nat):Int)=ex then 1 else CD (F4 u ex k vals l) ts*u]:=by
  intro l;induction l with
  | nil=>intro k vals ts;simp [F4]
  | cons a l ih =>
   intro k vals ts;rw[List.cons_append,F4,ih,F4,List.length_cons,show k+1+l.length=k+(l.length+1) by omega]
 have hi:=(zS h).1;rw[List.take_add_one,h,Option.toList_some,key,List.length_take,Nat.min_eq_left (by omega),Nat.zero_add]
def SC (m:Nat):Nat->Nat
 | 0=>0
 | i+1=>m*(SC m i+25)+SC m i+24
theorem kU {u:Rat} {ex:Int} {m:Nat} (hu:Bt 24 u) : ∀ (l:List (List (Int × Int))) (k:Nat) (vals:List Rat),(∀ ts∈l,ts.length<=m)->(∀ ts∈l,∀ t∈ts,t.2.natAbs<=2^24)->Bs (SC m k) vals->Bs (SC m (k+l.length)) (F4 u ex k vals l)
 | [],k,vals,_,_,hv=>hv
 | ts::l,k,vals,h1,h2,hv=>by
  rw[F4,List.length_cons,show k+(l.length+1)=k+1+l.length by omega];refine kU hu l (k+1) _ (λ t ht=>h1 t (by simp [ht])) (λ t ht=>h2 t (by simp [ht])) ?_;intro x hx;rcases List.mem_append.1 hx with hx|hx
  ·exact (hv x hx).le (by rw[SC];omega)
  ·simp only[List.mem_singleton]at hx
   subst hx;split
   ·exact Bt.one _
   ·have a1:=hv.sum ts (j:=24) (λ t ht=>Bt.ofInt (h2 ts (by simp) t ht))
    have a2:=zR (24+SC m k+1) (h1 ts (by simp));refine ((a1.le a2).mul hu).le ?_;rw[SC,show 24+SC m k+1=SC m k+25 by omega];omega
theorem oU {L:Lib} {kk:List It} {tm:Tm} {M:Mem} {Q Q':Tm->Mem->Prop} (h:AA L kk tm M Q) (hq : ∀ tm M,Q tm M->Q' tm M):AA L kk tm M Q':=λ σ st hr=>by
 obtain ⟨n,c,s,h1,σ',z7,M',h2,h3⟩:=h σ st hr;exact ⟨n,c,s,h1,σ',z7,M',h2,hq _ _ h3⟩
end Go.c6

namespace Go.c6
open F
attribute [local irreducible] AA AF AX AC CN AR BA A6 BV BH CM EI BO AY B0 CJ AB A5 AH pw CQ CE C8 EA DP BT CP BU C7
variable {L:Lib}
set_option maxHeartbeats 1000000
def DF (a b:Int):Int:=if a<b then -1 else if b<a then 1 else 0
theorem JL {a b:Int} (h:a<b) : -1=DF a b:=by unfold DF;rw[if_pos h]
theorem Q0 {a b:Int} (h:b<a):1=DF a b:=by unfold DF;rw[if_neg (by omega),if_pos h]
theorem UH {a b:Int} (h:a=b):0=DF a b:=by unfold DF;rw[if_neg (by omega),if_neg (by omega)]
theorem Agt (N:c8 L) (a:Int):Ev L 58 [.int .i64 a] (.bool false):=by
 refine Ev.x N.L2 rfl rfl ?_;(repeat' ((first|(apply AG<;>intro hc<;>try omega)|apply AE)<;>conv=>whnf))
 exact FV rfl
theorem Agu (N:c8 L) (a:Int):Ev L 59 [.int .u32 a] (.bool false):=by
 refine Ev.x N.L3 rfl rfl ?_;(repeat' ((first|(apply AG<;>intro hc<;>try omega)|apply AE)<;>conv=>whnf))
 exact FV rfl
theorem Agb (N:c8 L) (a b:Int):Ev L 60 [.int .i64 a,.int .i64 b] (.int .i64 (DF a b)):=by
 refine Ev.x N.L0 rfl rfl ?_;(repeat' ((first|(apply AG<;>intro hc<;>try omega)|apply AE|refine AD (Agt N _) ?_)<;>conv=>whnf))
 ·exact B5 (JL (by omega))
 ·exact B5 (Q0 (by omega))
 ·exact B5 (UH (by omega))
theorem Agc (N:c8 L) (a b:Int):Ev L 61 [.int .u32 a,.int .u32 b] (.int .i64 (DF a b)):=by
 refine Ev.x N.L1 rfl rfl ?_;(repeat' ((first|(apply AG<;>intro hc<;>try omega)|apply AE|refine AD (Agu N _) ?_)<;>conv=>whnf))
 ·exact B5 (JL (by omega))
 ·exact B5 (Q0 (by omega))
 ·exact B5 (UH (by omega))
theorem tQ (N:c8 L) (l:List Nat) (q:Bool) (hl:l.length<=1099511627776):Ev L 62 [.sl q (l.map AL)] (.sl false (l.map AL)):=by
 cases l with
 | nil =>
  refine G4.nil N.IZ (G4.x N.IZ rfl rfl ?_) (G4.x N.IZ rfl rfl ?_)
  ·(repeat' (apply AE<;>conv=>whnf))
   exact AW rfl (by simp [AZ,EV])
  ·(repeat' (apply AE<;>conv=>whnf))
   refine aD (enc:=AL) (l:=[]) (l':=[]) rfl (λ_=>rfl) (by simp) (by simp) ?_;(conv=>whnf)
   (repeat' ((refine CZ (λ_=>rfl) rfl ?_ ?_;(first|rfl|simp))<;>conv=>whnf))
   exact AW rfl (by simp [AZ,EV])
 | cons d l =>
  refine G4.cons (G4.x N.IZ rfl rfl ?_);(repeat' (apply AE<;>conv=>whnf))
  refine A2 (by simp) ?_;(conv=>whnf)
  skip
  refine aD (enc:=AL) (l:=[]) (l':=d::l) rfl (λ_=>rfl) (by simp at hl ⊢;omega) (by simp at hl ⊢;omega) ?_;(conv=>whnf)
  (repeat' ((refine CZ (λ_=>rfl) rfl ?_ ?_;(first|rfl|simp))<;>conv=>whnf))
  exact AW rfl (by simp only[AZ,true_and];exact C2 (d::l))
theorem LU (N:c8 L) (l:List Nat) (q:Bool) (hD:A1 l) (hl:l.length<=1099511627776):XY L 65 [.sl q (l.map AL)] (.sl q ((dg (val l)).map AL)):=by
 refine Wi N.G0 rfl rfl rfl rfl rfl ?_;(repeat' ((first|apply AP|apply AE)<;>conv=>whnf))
 refine D4 (λ n=>n) (λ(n:Nat)=>n<=l.length /\ ∀ i,n<=i->i<l.length->l[i]? = some 0) (λ n=>[(3,.int .i64 n)]) (λ_=>[]) l.length ⟨Nat.le_refl _,λ i h1 h2=>by omega⟩ ?_;intro n ⟨p1,p2⟩ ih;rcases n with _|n
 ·(repeat' ((first|(apply AG<;>intro hc<;>try omega)|apply AE)<;>conv=>whnf))
  refine LY (k:=0) (λ_=>rfl) (by omega) ?_;(conv=>whnf)
  refine ⟨_,rfl,?_⟩;rw[HK hD p1 p2 (Or.inl rfl)];rfl
 ·have e1:((n+1:Nat):Int)-1=n:=by omega
  (repeat' ((first|(apply AG<;>intro hc<;>try omega)|(apply BL;omega)|(refine S2 (by assumption) ?_ (λ e he hb => ?_);omega)|apply AE)<;>conv=>whnf))
  ·rw[e1]
   exact BB [] (ih n (by omega) ⟨by omega,λ i h1 h2=>by
    by_cases h:i=n
    ·subst h
     rw[e1,Int.toNat_natCast]at he;rw[he];congr 1;omega
    ·exact p2 i (by omega) h2⟩)
  ·refine LY (k:=n+1) (λ_=>rfl) (by omega) ?_
   (conv=>whnf)
   refine ⟨_,rfl,?_⟩;rw[e1,Int.toNat_natCast]at he;rw[HK hD p1 p2 (Or.inr ⟨e,he,by omega⟩)];rfl
theorem YL (N:c8 L) (l:List Nat) (q:Bool) (hD:A1 l) (hl:l.length<=1099511627776):Ev L 66 [.sl q (l.map AL)] (.sl false ((dg (val l)).map AL)):=by
 have hc:=FM hD;refine Ev.x N.M9 rfl rfl ?_;(repeat' ((first|apply AE|refine LG (LU N l _ hD hl) ?_|refine AD (tQ N (dg (val l)) _ (by omega)) ?_)<;>conv=>whnf))
 exact AW rfl (by simp only[AZ,true_and];exact C2 _)
theorem Aem {a b:Nat} (h:((dg a).length:Int)≠(dg b).length):DF (dg a).length (dg b).length=DF a b:=by
 rcases Nat.lt_trichotomy (dg a).length (dg b).length with h1|h1|h1
 ·have:=XH h1
  rw[<-JL (by omega),<-JL (by omega)]
 ·omega
 ·have:=XH h1
  rw[<-Q0 (by omega),<-Q0 (by omega)]
theorem R9 (N:c8 L) (a b:List Nat) (q1 q2:Bool) (hA:A1 a) (hB:A1 b) (la:a.length<=1099511627776) (lb:b.length<=1099511627776):Ev L 67 [.sl q1 (a.map AL),.sl q2 (b.map AL)] (.int .i64 (DF (val a) (val b))):=by
 have l1:=FM hA;have l2:=FM hB;have d1:=EF (val a);have d2:=EF (val b);refine Ev.x N.M5 rfl rfl ?_;(repeat' ((first|(apply AG<;>intro hc<;>try omega)|(apply BL;omega)|apply AP|apply AE|refine LG (LU N a _ hA la) ?_|refine LG (LU N b _ hB lb) ?_|refine AD (Agb N _ _) ?_)<;>conv=>whnf))
 ·exact B5 (Aem (by omega))
 have hlen:(dg (val a)).length=(dg (val b)).length:=by omega
 have v1:=BQ (val a);have v2:=BQ (val b);generalize dg (val a)=X at *;generalize dg (val b)=Y at *;refine D4 (λ n=>n) (λ(n:Nat)=>n<=X.length/\X.drop n=Y.drop n) (λ n=>[(7,.int .i64 ((n:Int)-1))]) (λ_=>[]) X.length ⟨Nat.le_refl _,by rw[List.drop_of_length_le (Nat.le_refl _),List.drop_of_length_le (by omega)]⟩ ?_;intro n ⟨p1,p2⟩ ih;rcases n with _|n
 ·(repeat' ((first|(apply AG<;>intro hc<;>try omega)|apply AE)<;>conv=>whnf))
  rw[List.drop_zero,List.drop_zero]at p2;exact B5 (UH (by rw[<-v1,<-v2,p2]))
 ·have e1:((n+1:Nat):Int)-1=n:=by omega
  rw[e1];(repeat' ((first|(apply AG<;>intro hc<;>try omega)|(apply BL;omega)|(refine A9 (by assumption) ?_ rfl ?_;omega)|(refine aQ (by assumption) ?_ (λ e he hb => ?_);omega)|apply AE|refine AD (Agc N _ _) ?_)<;>conv=>whnf))
  ·rename_i x hx _
   rcases Nat.lt_trichotomy x e with h|h|h
   ·have:=fW d1 d2 hlen hx he p2 h
    refine B5 ?_;rw[<-JL (by omega),<-JL (by omega)]
   ·omega
   ·have:=fW d2 d1 hlen.symm he hx p2.symm h
    refine B5 ?_;rw[<-Q0 (by omega),<-Q0 (by omega)]
  ·rename_i x hx _
   refine BN [] (by (conv=>whnf);exact ⟨rfl,rfl,rfl⟩) (ih n (by omega) ⟨by omega,?_⟩);obtain ⟨i1,e1⟩:=zS hx;obtain ⟨i2,e2⟩:=zS he;rw[List.drop_eq_getElem_cons i1,List.drop_eq_getElem_cons i2,p2,e1,e2];congr 1;omega
theorem fY {y:List Nat} {i:Nat} (h:y.length<=i):val (y.take (i+1))=val (y.take i):=by
 rw[DH h,DH (by omega)]
theorem AgB (N:c8 L) (a b:List Nat) (q1 q2:Bool) (hA:A1 a) (hB:A1 b) (la:a.length<=1099511627775) (lb:b.length<=1099511627775):Ev L 68 [.sl q1 (a.map AL),.sl q2 (b.map AL)] (.sl false ((dg (val a+val b)).map AL)):=by
 have l1:=FM hA;have l2:=FM hB;have d1:=EF (val a);have d2:=EF (val b);have v1:=BQ (val a);have v2:=BQ (val b);refine Ev.x N.M4 rfl rfl ?_;(repeat' ((first|(apply AG<;>intro hc<;>try omega)|(apply AQ;omega)|apply AP|apply AE|refine LG (LU N a _ hA (by omega)) ?_|refine LG (LU N b _ hB (by omega)) ?_)<;>conv=>whnf))
 ·generalize dg (val a)=y at *
  generalize dg (val b)=x at *;rw[<-v1,<-v2,Nat.add_comm (val y)];have hlen:y.length<=x.length:=by omega
  have Hb:x.length<=1099511627775:=by omega
  clear v1 v2 hA hB la lb;refine D9 (enc:=AL) 0 (x.length+1) rfl (by omega) (by omega) ?_;(conv=>whnf)
  (repeat' (apply AP<;>conv=>whnf))
  refine G9 (λ i _ _=>x.length-i) (λ(i:Nat) (o:List Nat) (c:Nat)=>i<=x.length/\o.length=x.length+1/\A1 o/\c<=1/\val (o.take i)+4294967296^i*c=val (x.take i)+val (y.take i)) (λ i o c=>[(8,.int .u64 (c:Int)),(29,.int .i64 i)]) (λ i o c=>[(26,26,.rw 1 (o.map AL))]) 0 (List.replicate (x.length+1) 0) 0 ⟨by omega,by simp,KF _,by omega,by simp [val]⟩ ?_;intro i o c ⟨p1,p2,p3,p4,p5⟩ ih;by_cases hi:i<x.length
  ·(repeat' ((first|(apply AG<;>intro hc<;>try omega)|(apply A2;omega)|(apply HB;omega)|(apply B3;omega)|apply G3|apply AP|(refine aQ (by assumption) ?_ (λ e he hb => ?_);omega)|apply AE)<;>conv=>whnf))
   ·rename_i d hd _
    refine GC (by omega) ?_;(conv=>whnf)
    (repeat' ((first|(apply AQ;omega)|apply GL)<;>conv=>whnf))
    refine BN [] (by (conv=>whnf);exact ⟨rfl,rfl,rfl⟩) (ih (i+1) _ _ (by omega) ⟨by omega,by simpa using p2,p3.set _ (by omega),by omega,?_⟩);have h1:=ER hd;have h2:=ER he;have h3:=R1 (val (o.take i)) (4294967296^i) (d+c+e);have h4:=G8 (v:=(d+c+e)%4294967296) (show i<o.length by omega);rw[h4,h1,h2,Nat.pow_succ];generalize 4294967296^i=p at *;rw[h3,Nat.mul_add,Nat.mul_add];omega
   ·refine GC (by omega) ?_
    (conv=>whnf)
    (repeat' ((first|(apply AQ;omega)|apply GL)<;>conv=>whnf))
    refine BN [] (by (conv=>whnf);exact ⟨rfl,rfl,rfl⟩) (ih (i+1) _ _ (by omega) ⟨by omega,by simpa using p2,p3.set _ (by omega),by omega,?_⟩);have h1:=ER he;have h2:=fY (y:=y) (i:=i) (by omega);have h3:=R1 (val (o.take i)) (4294967296^i) (e+c);have h4:=G8 (v:=(e+c)%4294967296) (show i<o.length by omega);rw[h4,h1,h2,Nat.pow_succ];generalize 4294967296^i=p at *;rw[h3,Nat.mul_add];omega
  ·obtain rfl:i=x.length:=by omega
   clear ih;(repeat' ((first|(apply AG<;>intro hc<;>try omega)|(apply A2;omega)|(apply E2;omega)|apply AP|apply AE)<;>conv=>whnf))
   refine GC (by omega) ?_;(conv=>whnf)
   skip
   have hV:val (o.set x.length c)=val x+val y:=by
    have h4:=G8 (v:=c) (show x.length<o.length by omega);rw[zT (by simp;omega)]at h4;rw[h4,p5,DH (Nat.le_refl _),DH hlen]
   have hD:A1 (o.set x.length c):=p3.set _ (by omega);have hL:(o.set x.length c).length=x.length+1:=by simpa using p2
   clear p3 p4 p5 p2;generalize o.set x.length c=O at *;rw[<-hL];refine HR 1000 N.G0 rfl rfl ?_;(repeat' (apply AE<;>conv=>whnf))
   refine D8 (λ n=>n) (λ(n:Nat)=>n<=(O).length /\ ∀ i,n<=i->i<(O).length->(O)[i]? = some 0) (λ n=>[(3,.int .i64 n)]) (λ_=>[]) [] [] (O).length (by first|exact (by (conv=>whnf);exact ⟨rfl,rfl,rfl⟩)|(simp only[List.length_set,List.length_replicate];exact (by (conv=>whnf);exact ⟨rfl,rfl,rfl⟩))) ⟨Nat.le_refl _,λ i h1 h2=>by omega⟩ ?_;intro n ⟨p1,p2⟩ ih;rcases n with _|n
   ·(repeat' ((first|(apply AG<;>intro hc<;>try omega)|apply AE)<;>conv=>whnf))
    refine H5 0 (by omega) (by omega) ?_;(conv=>whnf)
    refine ⟨rfl,_,rfl,?_⟩;(conv=>whnf)
    have hm:=p1;have bg:=HK (l:=O) (by assumption) p1 p2 (Or.inl rfl);clear ih p1 p2;(refine I4 (enc:=AL) (λ_=>rfl) (by omega) ?_;(conv=>whnf);exact AW (by rw[<-hV,<-bg];rfl) (by simp only[AZ,true_and];exact C2 _))
   ·have e1:((n+1:Nat):Int)-1=n:=by omega
    (repeat' ((first|(apply AG<;>intro hc<;>try omega)|(apply A2;omega)|(apply BL;omega)|(refine T8 (by assumption) ?_ (λ v hv hb => ?_);omega)|apply AE)<;>conv=>whnf))
    ·rw[e1]
     exact BB [] (ih n (by omega) ⟨by omega,λ i h1 h2=>by
      by_cases h:i=n
      ·subst h
       rw[e1,Int.toNat_natCast]at hv;rw[hv];congr 1;omega
      ·exact p2 i (by omega) h2⟩)
    ·refine H5 (n+1) (by omega) (by omega) ?_
     (conv=>whnf)
     refine ⟨rfl,_,rfl,?_⟩;(conv=>whnf)
     rw[e1,Int.toNat_natCast]at hv;have hm:=p1;have bg:=HK (l:=O) (by assumption) p1 p2 (Or.inr ⟨_,hv,by omega⟩);clear ih p1 p2 hv;(refine I4 (enc:=AL) (λ_=>rfl) (by omega) ?_;(conv=>whnf);exact AW (by rw[<-hV,<-bg];rfl) (by simp only[AZ,true_and];exact C2 _))
 ·generalize dg (val a)=x at *
  generalize dg (val b)=y at *;rw[<-v1,<-v2];have hlen:y.length<=x.length:=by omega
  have Hb:x.length<=1099511627775:=by omega
  clear v1 v2 hA hB la lb;refine D9 (enc:=AL) 0 (x.length+1) rfl (by omega) (by omega) ?_;(conv=>whnf)
  (repeat' (apply AP<;>conv=>whnf))
  refine G9 (λ i _ _=>x.length-i) (λ(i:Nat) (o:List Nat) (c:Nat)=>i<=x.length/\o.length=x.length+1/\A1 o/\c<=1/\val (o.take i)+4294967296^i*c=val (x.take i)+val (y.take i)) (λ i o c=>[(8,.int .u64 (c:Int)),(29,.int .i64 i)]) (λ i o c=>[(26,26,.rw 1 (o.map AL))]) 0 (List.replicate (x.length+1) 0) 0 ⟨by omega,by simp,KF _,by omega,by simp [val]⟩ ?_;intro i o c ⟨p1,p2,p3,p4,p5⟩ ih;by_cases hi:i<x.length
  ·(repeat' ((first|(apply AG<;>intro hc<;>try omega)|(apply A2;omega)|(apply HB;omega)|(apply B3;omega)|apply G3|apply AP|(refine aQ (by assumption) ?_ (λ e he hb => ?_);omega)|apply AE)<;>conv=>whnf))
   ·rename_i d hd _
    refine GC (by omega) ?_;(conv=>whnf)
    (repeat' ((first|(apply AQ;omega)|apply GL)<;>conv=>whnf))
    refine BN [] (by (conv=>whnf);exact ⟨rfl,rfl,rfl⟩) (ih (i+1) _ _ (by omega) ⟨by omega,by simpa using p2,p3.set _ (by omega),by omega,?_⟩);have h1:=ER hd;have h2:=ER he;have h3:=R1 (val (o.take i)) (4294967296^i) (d+c+e);have h4:=G8 (v:=(d+c+e)%4294967296) (show i<o.length by omega);rw[h4,h1,h2,Nat.pow_succ];generalize 4294967296^i=p at *;rw[h3,Nat.mul_add,Nat.mul_add];omega
   ·refine GC (by omega) ?_
    (conv=>whnf)
    (repeat' ((first|(apply AQ;omega)|apply GL)<;>conv=>whnf))
    refine BN [] (by (conv=>whnf);exact ⟨rfl,rfl,rfl⟩) (ih (i+1) _ _ (by omega) ⟨by omega,by simpa using p2,p3.set _ (by omega),by omega,?_⟩);have h1:=ER he;have h2:=fY (y:=y) (i:=i) (by omega);have h3:=R1 (val (o.take i)) (4294967296^i) (e+c);have h4:=G8 (v:=(e+c)%4294967296) (show i<o.length by omega);rw[h4,h1,h2,Nat.pow_succ];generalize 4294967296^i=p at *;rw[h3,Nat.mul_add];omega
  ·obtain rfl:i=x.length:=by omega
   clear ih;(repeat' ((first|(apply AG<;>intro hc<;>try omega)|(apply A2;omega)|(apply E2;omega)|apply AP|apply AE)<;>conv=>whnf))
   refine GC (by omega) ?_;(conv=>whnf)
   skip
   have hV:val (o.set x.length c)=val x+val y:=by
    have h4:=G8 (v:=c) (show x.length<o.length by omega);rw[zT (by simp;omega)]at h4;rw[h4,p5,DH (Nat.le_refl _),DH hlen]
   have hD:A1 (o.set x.length c):=p3.set _ (by omega);have hL:(o.set x.length c).length=x.length+1:=by simpa using p2
   clear p3 p4 p5 p2;generalize o.set x.length c=O at *;rw[<-hL];refine HR 1000 N.G0 rfl rfl ?_;(repeat' (apply AE<;>conv=>whnf))
   refine D8 (λ n=>n) (λ(n:Nat)=>n<=(O).length /\ ∀ i,n<=i->i<(O).length->(O)[i]? = some 0) (λ n=>[(3,.int .i64 n)]) (λ_=>[]) [] [] (O).length (by first|exact (by (conv=>whnf);exact ⟨rfl,rfl,rfl⟩)|(simp only[List.length_set,List.length_replicate];exact (by (conv=>whnf);exact ⟨rfl,rfl,rfl⟩))) ⟨Nat.le_refl _,λ i h1 h2=>by omega⟩ ?_;intro n ⟨p1,p2⟩ ih;rcases n with _|n
   ·(repeat' ((first|(apply AG<;>intro hc<;>try omega)|apply AE)<;>conv=>whnf))
    refine H5 0 (by omega) (by omega) ?_;(conv=>whnf)
    refine ⟨rfl,_,rfl,?_⟩;(conv=>whnf)
    have hm:=p1;have bg:=HK (l:=O) (by assumption) p1 p2 (Or.inl rfl);clear ih p1 p2;(refine I4 (enc:=AL) (λ_=>rfl) (by omega) ?_;(conv=>whnf);exact AW (by rw[<-hV,<-bg];rfl) (by simp only[AZ,true_and];exact C2 _))
   ·have e1:((n+1:Nat):Int)-1=n:=by omega
    (repeat' ((first|(apply AG<;>intro hc<;>try omega)|(apply A2;omega)|(apply BL;omega)|(refine T8 (by assumption) ?_ (λ v hv hb => ?_);omega)|apply AE)<;>conv=>whnf))
    ·rw[e1]
     exact BB [] (ih n (by omega) ⟨by omega,λ i h1 h2=>by
      by_cases h:i=n
      ·subst h
       rw[e1,Int.toNat_natCast]at hv;rw[hv];congr 1;omega
      ·exact p2 i (by omega) h2⟩)
    ·refine H5 (n+1) (by omega) (by omega) ?_
     (conv=>whnf)
     refine ⟨rfl,_,rfl,?_⟩;(conv=>whnf)
     rw[e1,Int.toNat_natCast]at hv;have hm:=p1;have bg:=HK (l:=O) (by assumption) p1 p2 (Or.inr ⟨_,hv,by omega⟩);clear ih p1 p2 hv;(refine I4 (enc:=AL) (λ_=>rfl) (by omega) ?_;(conv=>whnf);exact AW (by rw[<-hV,<-bg];rfl) (by simp only[AZ,true_and];exact C2 _))
theorem Aek {a b:Int} (h:DF a b<=0):a<=b:=by
 unfold DF at h;split at h
 ·omega
 ·split at h<;>omega
theorem Ael {a b:Int} (h:0<DF a b):b<a:=by
 unfold DF at h;split at h
 ·omega
 ·split at h<;>omega
theorem uH (N:c8 L) (a b:List Nat) (q1 q2:Bool) (hA:A1 a) (hB:A1 b) (la:a.length<=1099511627776) (lb:b.length<=1099511627776):Ev L 69 [.sl q1 (a.map AL),.sl q2 (b.map AL)] (.sl false ((dg (val a-val b)).map AL)):=by
 have l1:=FM hA;have l2:=FM hB;have d1:=EF (val a);have d2:=EF (val b);have v1:=BQ (val a);have v2:=BQ (val b);refine Ev.x N.M8 rfl rfl ?_;(repeat' ((first|(apply AG<;>intro hc<;>try omega)|apply AP|apply AE|refine AD (R9 N a b _ _ hA hB la lb) ?_|refine LG (LU N a _ hA la) ?_|refine LG (LU N b _ hB lb) ?_)<;>conv=>whnf))
 ·have:=Aek hc
  refine AW ?_ (by simp only[AZ,true_and];exact C2 _);rw[show val a-val b=0 by omega,FZ];rfl
 ·have j9:=Ael hc
  have rh:(dg (val b)).length<=(dg (val a)).length:=by
   rcases Nat.lt_or_ge (dg (val a)).length (dg (val b)).length with h|h
   ·have:=XH h;omega
   ·exact h
  have ri:val b<val a:=by omega
  clear j9 hc;generalize dg (val a)=x at *;generalize dg (val b)=y at *;rw[<-v1,<-v2]at ri ⊢;clear v1 v2 hA hB lb;refine D9 (enc:=AL) 0 x.length rfl rfl (by omega) ?_;(conv=>whnf)
  (repeat' (apply AP<;>conv=>whnf))
  refine G9 (λ i _ _=>x.length-i) (λ(i:Nat) (o:List Nat) (c:Nat)=>i<=x.length/\o.length=x.length/\A1 o/\c<=1/\val (o.take i)+val (y.take i)=val (x.take i)+4294967296^i*c) (λ i o c=>[(8,.int .u64 (c:Int)),(25,.int .i64 i)]) (λ i o c=>[(22,22,.rw 1 (o.map AL))]) 0 (List.replicate x.length 0) 0 ⟨by omega,by simp,KF _,by omega,by simp [val]⟩ ?_;intro i o c ⟨p1,p2,p3,p4,p5⟩ ih;by_cases hi:i<x.length
  ·(repeat' ((first|(apply AG<;>intro hc<;>try omega)|(apply A2;omega)|(apply aO;omega)|(apply B3;omega)|apply G3|apply AP|(refine aQ (by assumption) ?_ (λ e he hb => ?_);omega)|apply AE)<;>conv=>whnf))
   ·rename_i d hd y7
    obtain ⟨s1,s2⟩:=Ak5 y7 hb p4;refine GC (by omega) ?_;(conv=>whnf)
    (repeat' ((first|(apply AQ;omega)|apply aM)<;>conv=>whnf))
    generalize E9 (E9 d c) e=t at *;refine BN [] (by (conv=>whnf);exact ⟨rfl,rfl,rfl⟩) (ih (i+1) _ _ (by omega) ⟨by omega,by simpa using p2,p3.set _ (by omega),s2,?_⟩);rw[G8 (by omega),ER hd,ER he,Nat.pow_succ];exact Qt p5 s1
   ·obtain ⟨s1,s2⟩:=Ak4 hb p4
    refine GC (by omega) ?_;(conv=>whnf)
    (repeat' ((first|(apply AQ;omega)|apply aM)<;>conv=>whnf))
    generalize E9 e c=t at *;refine BN [] (by (conv=>whnf);exact ⟨rfl,rfl,rfl⟩) (ih (i+1) _ _ (by omega) ⟨by omega,by simpa using p2,p3.set _ (by omega),s2,?_⟩);rw[G8 (by omega),ER he,fY (by omega),Nat.pow_succ];rw[<-Nat.add_zero (t%4294967296)]at s1;have:=Qt (e:=0) p5 s1
    rw[Nat.mul_zero,Nat.add_zero]at this;exact this
  ·obtain rfl:i=x.length:=by omega
   clear ih;have ep:c=0:=by
    rw[DH (by omega),DH rh,DH (Nat.le_refl _)]at p5;have:=F2 p3
    rw[p2]at this;rcases Nat.eq_zero_or_pos c with h|h
    ·exact h
    ·have:c=1:=by omega
     subst this;omega
   subst ep;have hV:val o=val x-val y:=by
    rw[DH (by omega),DH rh,DH (Nat.le_refl _)]at p5;omega
   clear p5 p4;rw[<-p2];(repeat' ((first|(apply AG<;>intro hc<;>try omega)|apply AE)<;>conv=>whnf))
   refine HR 1000 N.G0 rfl rfl ?_;(repeat' (apply AE<;>conv=>whnf))
   refine D8 (λ n=>n) (λ(n:Nat)=>n<=(o).length /\ ∀ i,n<=i->i<(o).length->(o)[i]? = some 0) (λ n=>[(3,.int .i64 n)]) (λ_=>[]) [] [] (o).length (by first|exact (by (conv=>whnf);exact ⟨rfl,rfl,rfl⟩)|(simp only[List.length_set,List.length_replicate];exact (by (conv=>whnf);exact ⟨rfl,rfl,rfl⟩))) ⟨Nat.le_refl _,λ i h1 h2=>by omega⟩ ?_;intro n ⟨p1,p2⟩ ih;rcases n with _|n
   ·(repeat' ((first|(apply AG<;>intro hc<;>try omega)|apply AE)<;>conv=>whnf))
    refine H5 0 (by omega) (by omega) ?_;(conv=>whnf)
    refine ⟨rfl,_,rfl,?_⟩;(conv=>whnf)
    have hm:=p1;have bg:=HK (l:=o) (by assumption) p1 p2 (Or.inl rfl);clear ih p1 p2;(refine I4 (enc:=AL) (λ_=>rfl) (by omega) ?_;(conv=>whnf);exact AW (by rw[<-hV,<-bg];rfl) (by simp only[AZ,true_and];exact C2 _))
   ·have e1:((n+1:Nat):Int)-1=n:=by omega
    (repeat' ((first|(apply AG<;>intro hc<;>try omega)|(apply A2;omega)|(apply BL;omega)|(refine T8 (by assumption) ?_ (λ v hv hb => ?_);omega)|apply AE)<;>conv=>whnf))
    ·rw[e1]
     exact BB [] (ih n (by omega) ⟨by omega,λ i h1 h2=>by
      by_cases h:i=n
      ·subst h
       rw[e1,Int.toNat_natCast]at hv;rw[hv];congr 1;omega
      ·exact p2 i (by omega) h2⟩)
    ·refine H5 (n+1) (by omega) (by omega) ?_
     (conv=>whnf)
     refine ⟨rfl,_,rfl,?_⟩;(conv=>whnf)
     rw[e1,Int.toNat_natCast]at hv;have hm:=p1;have bg:=HK (l:=o) (by assumption) p1 p2 (Or.inr ⟨_,hv,by omega⟩);clear ih p1 p2 hv;(refine I4 (enc:=AL) (λ_=>rfl) (by omega) ?_;(conv=>whnf);exact AW (by rw[<-hV,<-bg];rfl) (by simp only[AZ,true_and];exact C2 _))
theorem jT (N:c8 L) (a b:List Nat) (q1 q2:Bool) (hA:A1 a) (hB:A1 b) (Uz:a.length+b.length<=1099511627776):Ev L 70 [.sl q1 (a.map AL),.sl q2 (b.map AL)] (.sl false ((dg (val a*val b)).map AL)):=by
 have l1:=FM hA;have l2:=FM hB;have d1:=EF (val a);have d2:=EF (val b);have v1:=BQ (val a);have v2:=BQ (val b);refine Ev.x N.M7 rfl rfl ?_;have hz : ∀ p:Prop,((dg (val a)).length:Int)=0\/((dg (val b)).length:Int)=0->AH (.sl false []) (.sl false ((dg (val a*val b)).map AL)):=λ_ h=>by
  have:val a*val b=0:=by
   rcases h with h|h
   ·have:dg (val a)=[]:=List.eq_nil_of_length_eq_zero (by omega)
    rw[iY.1 this,Nat.zero_mul]
   ·have:dg (val b)=[]:=List.eq_nil_of_length_eq_zero (by omega)
    rw[iY.1 this,Nat.mul_zero]
  exact AW (by rw[this,FZ];rfl) (by simp only[AZ,true_and];exact C2 _)
 (repeat' ((first|(apply AG<;>intro hc<;>try omega)|(apply AQ;omega)|apply AP|apply AE|refine LG (LU N a _ hA (by omega)) ?_|refine LG (LU N b _ hB (by omega)) ?_)<;>conv=>whnf))
 ·exact hz True (Or.inl hc)
 ·exact hz True (Or.inr hc)
 ·clear hz
  generalize dg (val a)=x at *;generalize dg (val b)=y at *;rw[<-v1,<-v2];have pz:x.length+y.length<=1099511627776:=by omega
  clear v1 v2 hA hB Uz l1 l2;refine D9 (enc:=AL) 0 (x.length+y.length) rfl (by omega) (by omega) ?_;(conv=>whnf)
  (repeat' (apply AP<;>conv=>whnf))
  refine FU (λ i _=>x.length-i) (λ(i:Nat) (o:List Nat)=>i<=x.length/\o.length=x.length+y.length/\A1 o/\val o=val (x.take i)*val y /\ ∀ k,i+y.length<=k->k<o.length->o[k]? = some 0) (λ i o=>[(34,.int .i64 i)]) (λ i o=>[(31,31,.rw 1 (o.map AL))]) 0 (List.replicate (x.length+y.length) 0) ⟨by omega,by simp,KF _,by simp [val,gA],λ k h1 h2=>by simp at h2;simp [h2]⟩ ?_;intro i O ⟨p1,p2,p3,p4,p5⟩ ih;by_cases hi:i<x.length
  ·obtain ⟨d,hd⟩ : ∃ d,x[i]? = some d:=⟨_,zE hi⟩
   have y7:=d1.at hd;(repeat' ((first|(apply AG<;>intro hc<;>try omega)|(apply AQ;omega)|apply AP|(refine A9 (by assumption) ?_ rfl ?_;omega)|apply AE)<;>conv=>whnf))
   ·refine BN [] (by (conv=>whnf);exact ⟨rfl,rfl,rfl⟩) (ih (i+1) O (by omega) ⟨by omega,p2,p3,?_,λ k h1 h2=>p5 k (by omega) h2⟩)
    rw[ER hd,p4,show d=0 by omega,Nat.mul_zero,Nat.add_zero]
   ·refine G9 (λ j _ _=>y.length-j) (λ(j:Nat) (o:List Nat) (c:Nat)=>j<=y.length/\o.length=x.length+y.length/\A1 o/\c<4294967296/\val o+4294967296^(i+j)*c=val O+4294967296^i*(d*val (y.take j)) /\ ∀ k,i+j<=k->o[k]? = O[k]?) (λ j o c=>[(10,.int .u64 (c:Int)),(43,.int .i64 j)]) (λ j o c=>[(31,31,.rw 1 (o.map AL))]) 0 O 0 ⟨by omega,p2,p3,by omega,by simp [val],λ_ _=>rfl⟩ ?_
    intro j o c ⟨r1,r2,r3,r4,r5,r6⟩ jh;have e1:((i:Int)+j).toNat=i+j:=by omega
    by_cases hj:j<y.length
    ·obtain ⟨w,hw⟩ : ∃ w,y[j]? = some w:=⟨_,zE hj⟩
     have Lk:=d2.at hw;have hm:=WX y7 Lk;(repeat' ((first|(apply AG<;>intro hc<;>try omega)|(apply A2;omega)|(apply AQ;omega)|(apply HB;omega)|(apply RS;omega)|(apply B3;omega)|apply G3|(refine A9 (by assumption) ?_ rfl ?_;omega)|(refine pI (by assumption) ?_ (λ v hv hb => ?_);omega)|apply AE)<;>conv=>whnf))
     refine aT (i+j) (by omega) (by omega) ?_;(conv=>whnf)
     (repeat' ((first|(apply AQ;omega)|apply GL)<;>conv=>whnf))
     refine BN [] (by (conv=>whnf);exact ⟨rfl,rfl,rfl⟩) (jh (j+1) _ _ (by omega) ⟨by omega,by simpa using r2,r3.set _ (by omega),by omega,?_,?_⟩)
     ·have h1:=fX (v:=(d*w+v+c)%4294967296) hv
      have h2:=R1 0 (4294967296^(i+j)) (d*w+v+c);rw[ER hw,show i+(j+1)=i+j+1 by omega,Nat.pow_succ (4294967296) (i+j)];have h3:4294967296^i*(d*(val (y.take j)+4294967296^j*w))=4294967296^i*(d*val (y.take j))+4294967296^(i+j)*(d*w):=by rw[Nat.pow_add];grind
      rw[h3];generalize 4294967296^(i+j)=P at *;rw[Nat.mul_add P,Nat.mul_add P]at h2;omega
     ·intro k hk
      rw[List.getElem?_set_ne (by omega)];exact r6 k (by omega)
    ·obtain rfl:j=y.length:=by omega
     clear jh;(repeat' ((first|(apply AG<;>intro hc<;>try omega)|(apply A2;omega)|(apply AQ;omega)|(apply E2;omega)|apply AP|apply AE)<;>conv=>whnf))
     have hz:=r6 (i+y.length) (by omega);rw[p5 (i+y.length) (by omega) (by omega)]at hz;refine aT (i+y.length) (by omega) (by omega) ?_;(conv=>whnf)
     (repeat' ((first|(apply AQ;omega)|fail)<;>conv=>whnf))
     refine BN [] (by (conv=>whnf);exact ⟨rfl,rfl,rfl⟩) (ih (i+1) _ (by omega) ⟨by omega,by simpa using r2,r3.set _ (by omega),?_,?_⟩)
     ·have h1:=fX (v:=c) hz
      rw[Nat.mul_zero,Nat.add_zero]at h1;rw[h1,r5,p4,DH (Nat.le_refl _),ER hd,Nat.add_mul,Nat.mul_assoc]
     ·intro k h1 h2
      rw[List.length_set]at h2;rw[List.getElem?_set_ne (by omega),r6 k (by omega)];exact p5 k (by omega) (by omega)
  ·obtain rfl:i=x.length:=by omega
   clear ih;rw[DH (Nat.le_refl _)]at p4;rw[<-p4,<-p2];(repeat' ((first|(apply AG<;>intro hc<;>try omega)|apply AE)<;>conv=>whnf))
   clear p5;refine HR 1000 N.G0 rfl rfl ?_;(repeat' (apply AE<;>conv=>whnf))
   refine D8 (λ n=>n) (λ(n:Nat)=>n<=(O).length /\ ∀ i,n<=i->i<(O).length->(O)[i]? = some 0) (λ n=>[(3,.int .i64 n)]) (λ_=>[]) [] [] (O).length (by first|exact (by (conv=>whnf);exact ⟨rfl,rfl,rfl⟩)|(simp only[List.length_set,List.length_replicate];exact (by (conv=>whnf);exact ⟨rfl,rfl,rfl⟩))) ⟨Nat.le_refl _,λ i h1 h2=>by omega⟩ ?_;intro n ⟨p1,p2⟩ ih;rcases n with _|n
   ·(repeat' ((first|(apply AG<;>intro hc<;>try omega)|apply AE)<;>conv=>whnf))
    refine H5 0 (by omega) (by omega) ?_;(conv=>whnf)
    refine ⟨rfl,_,rfl,?_⟩;(conv=>whnf)
    have hm:=p1;have bg:=HK (l:=O) (by assumption) p1 p2 (Or.inl rfl);clear ih p1 p2;(refine I4 (enc:=AL) (λ_=>rfl) (by omega) ?_;(conv=>whnf);exact AW (by rw[<-bg];rfl) (by simp only[AZ,true_and];exact C2 _))
   ·have e1:((n+1:Nat):Int)-1=n:=by omega
    (repeat' ((first|(apply AG<;>intro hc<;>try omega)|(apply A2;omega)|(apply BL;omega)|(refine T8 (by assumption) ?_ (λ v hv hb => ?_);omega)|apply AE)<;>conv=>whnf))
    ·rw[e1]
     exact BB [] (ih n (by omega) ⟨by omega,λ i h1 h2=>by
      by_cases h:i=n
      ·subst h
       rw[e1,Int.toNat_natCast]at hv;rw[hv];congr 1;omega
      ·exact p2 i (by omega) h2⟩)
    ·refine H5 (n+1) (by omega) (by omega) ?_
     (conv=>whnf)
     refine ⟨rfl,_,rfl,?_⟩;(conv=>whnf)
     rw[e1,Int.toNat_natCast]at hv;have hm:=p1;have bg:=HK (l:=O) (by assumption) p1 p2 (Or.inr ⟨_,hv,by omega⟩);clear ih p1 p2 hv;(refine I4 (enc:=AL) (λ_=>rfl) (by omega) ?_;(conv=>whnf);exact AW (by rw[<-bg];rfl) (by simp only[AZ,true_and];exact C2 _))
end Go.c6

namespace Go.c6
open F
section
variable {K:AV->Prop} {a b s:Nat} {k':IntKind}
theorem pP (hs:s<=32) (hk:K (.int .u32 ((SP a s:Nat):Int))):AC .shl .u32 (a:Int) k' (s:Int) K:=by
 refine gP (show s<=IntKind.u32.bits from hs) ?_;rw[wrap_u32,<-nI];exact hk
theorem RV (hs:s<=64) (h:a*2^s<=18446744073709551615) (hk:K (.int .u64 ((a*2^s:Nat):Int))):AC .shl .u64 (a:Int) k' (s:Int) K:=by
 refine gP (show s<=IntKind.u64.bits from hs) ?_;rw[IntWalk.u64_in _ (by omega)];exact hk
theorem gQ (n:Nat) (hx:a%2^n=0) (hy:b<2^n) (h:a+b<=4294967295) (hk:K (.int .u32 ((a+b:Nat):Int))):AC .or .u32 (a:Int) .u32 (b:Int) K :=
 gO n hx hy (show a+b<4294967296 by omega) (IntWalk.u32_in _ (by omega)) hk
theorem Vy (n:Nat) (hx:b%2^n=0) (hy:a<2^n) (h:a+b<=4294967295) (hk:K (.int .u32 ((a+b:Nat):Int))):AC .or .u32 (a:Int) .u32 (b:Int) K:=by
 have e:C4 .or .u32 (a:Int) .u32 (b:Int)=C4 .or .u32 (b:Int) .u32 (a:Int):=by
  simp only[C4,if_true,BitVec.or_comm]
 rw[Nat.add_comm]at hk h;obtain ⟨v,h1,h2⟩:=gQ (K:=K) n hx hy h hk;exact ⟨v,by rw[e];exact h1,h2⟩
theorem Wa (hs:s<=32) (hk:K (.int .u32 ((a/2^s:Nat):Int))):AC .shr .u32 (a:Int) k' (s:Int) K:=RU (show s<=IntKind.u32.bits from hs) hk
end
attribute [local irreducible] AA AF AX AC CN AR BA A6 BV BH CM EI BO AY B0 CJ AB A5 AH pw CQ CE C8 EA DP BT CP BU C7
set_option maxHeartbeats 1000000
variable {L:Lib}
def gN (a:List Nat) (s:Nat) (o:List Nat):Prop:=A1 o/\(a.length<=o.length/\o.length<=a.length+1)/\(val a*2^s<4294967296^o.length->val o=val a*2^s)
theorem AiN {a o:List Nat} {s lo:Nat} (hD:A1 o) (hl:o.length=a.length) (h:val (o.take a.length)+4294967296^a.length*lo=val (a.take a.length)*2^s):gN a s o:=by
 refine ⟨hD,by omega,λ j9 => ?_⟩;rw[DH (by omega),DH (Nat.le_refl _)]at h;rw[hl]at j9;have:lo=0:=by
  rcases Nat.eq_zero_or_pos lo with h0|h0
  ·exact h0
  ·have:4294967296^a.length*1<=4294967296^a.length*lo:=Nat.mul_le_mul_left _ h0
   omega
 subst this;omega
theorem yJ {a o:List Nat} {s lo:Nat} (hD:A1 o) (ma:lo<4294967296) (hl:o.length=a.length+1) (h:val (o.take a.length)+4294967296^a.length*lo=val (a.take a.length)*2^s):gN a s (o.set a.length lo):=by
 refine ⟨hD.set _ ma,by simp;omega,λ_ => ?_⟩;have h1:=G8 (v:=lo) (show a.length<o.length by omega);rw[DH (by simp;omega),h,DH (Nat.le_refl _)]at h1;exact h1
theorem AgF (N:c8 L) (a:List Nat) (q:Bool) (s n:Nat) (hA:A1 a) (hs:s<=31) (hn:a.length<=n/\n<=a.length+1) (la:a.length<=1099511627776) : ∃ r,Ev L 71 [.sl q (a.map AL),.int .u64 (s:Int),.int .i64 (n:Int)] r /\ ∃ o,gN a s o/\o.length=n/\r = .sl false (o.map AL):=by
 refine Ev.xE N.KZ rfl rfl ?_;(repeat' (apply AE<;>conv=>whnf))
 refine D9 (enc:=AL) 0 n rfl rfl (by omega) ?_;(conv=>whnf)
 (repeat' (apply AP<;>conv=>whnf))
 refine G9 (λ i _ _=>a.length-i) (λ(i:Nat) (o:List Nat) (lo:Nat)=>i<=a.length/\o.length=n/\A1 o/\lo<2^s/\val (o.take i)+4294967296^i*lo=val (a.take i)*2^s) (λ i o lo=>[(8,.int .u32 (lo:Int)),(15,.int .i64 i)]) (λ i o lo=>[(71012,71012,.rw 1 (o.map AL))]) 0 (List.replicate n 0) 0 ⟨by omega,by simp,KF _,Nat.two_pow_pos s,by simp [val]⟩ ?_;intro i o lo ⟨p1,p2,p3,p4,p5⟩ ih;have pn:=ZJ (s:=s) (by omega);by_cases hi:i<a.length
 ·obtain ⟨d,hd⟩ : ∃ d,a[i]? = some d:=⟨_,zE hi⟩
  have y7:=hA.at hd;obtain ⟨f1,f2,f3,f4⟩:=VG (s:=s) y7 (by omega);(repeat' ((first|(apply AG<;>intro hc<;>try omega)|(refine A9 (by assumption) ?_ rfl ?_;omega)|apply AE)<;>conv=>whnf))
  refine pP (by omega) ?_;(conv=>whnf)
  skip
  refine gQ s f1 p4 (by omega) ?_;(conv=>whnf)
  (repeat' ((first|(apply A2;omega)|fail)<;>conv=>whnf))
  refine GC (by omega) ?_;(conv=>whnf)
  (repeat' ((first|(apply B3;omega)|fail)<;>conv=>whnf))
  refine RV (by omega) f4 ?_;(conv=>whnf)
  (repeat' ((first|(apply AQ;omega)|apply GL|(apply E2;omega))<;>conv=>whnf))
  rw[<-VF];refine BN [] (by (conv=>whnf);exact ⟨rfl,rfl,rfl⟩) (ih (i+1) _ _ (by omega) ⟨by omega,by simpa using p2,p3.set _ (by omega),f2,?_⟩);rw[G8 (by omega),ER hd,Nat.pow_succ];exact yK p5
 ·obtain rfl:i=a.length:=by omega
  clear ih;(repeat' ((first|(apply AG<;>intro hc<;>try omega)|(apply A2;omega)|apply AP|apply AE)<;>conv=>whnf))
  ·refine GC (by omega) ?_
   (conv=>whnf)
   skip
   refine ⟨_,?_,_,yJ p3 (by omega) (by omega) p5,by simpa using p2,rfl⟩;(conv=>whnf)
   refine CZ (enc:=AL) (λ_=>rfl) rfl (by simp [p2]) ?_;(conv=>whnf)
   exact AW rfl (by simp only[AZ,true_and];exact C2 _)
  ·refine ⟨_,?_,_,AiN p3 (by omega) p5,p2,rfl⟩
   (conv=>whnf)
   refine CZ (enc:=AL) (λ_=>rfl) rfl (by simp [p2]) ?_;(conv=>whnf)
   exact AW rfl (by simp only[AZ,true_and];exact C2 _)
theorem AgG (N:c8 L) (a:List Nat) (q:Bool) (s:Nat) (hA:A1 a) (hs:s<=31) (la:a.length<=1099511627776) : ∃ r,Ev L 72 [.sl q (a.map AL),.int .u64 (s:Int)] r /\ ∃ o,A1 o/\o.length=a.length/\val o=val a/2^s/\r = .sl false (o.map AL):=by
 refine Ev.xE N.NE rfl rfl ?_;(repeat' ((first|apply AP|apply AE)<;>conv=>whnf))
 refine D9 (enc:=AL) 0 a.length rfl rfl (by omega) ?_;(conv=>whnf)
 (repeat' ((first|(apply BL;omega)|apply AP)<;>conv=>whnf))
 refine G9 (λ n _ _=>n) (λ(n:Nat) (o:List Nat) (hi:Nat)=>n<=a.length/\o.length=a.length/\A1 o/\hi=val (a.drop n)%2^s*2^(32-s)/\val (o.drop n)=val (a.drop n)/2^s) (λ n o hi=>[(6,.int .u32 (hi:Int)),(7,.int .i64 ((n:Int)-1))]) (λ n o hi=>[(10,10,.rw 1 (o.map AL))]) a.length (List.replicate a.length 0) 0 ⟨by omega,by simp,KF _,by rw[List.drop_of_length_le (Nat.le_refl _)];simp [val],by rw[List.drop_of_length_le (Nat.le_refl _),List.drop_of_length_le (by simp)];simp [val]⟩ ?_;intro n o hi ⟨p1,p2,p3,p4,p5⟩ ih;rcases n with _|n
 ·(repeat' ((first|(apply AG<;>intro hc<;>try omega)|apply AE)<;>conv=>whnf))
  rw[List.drop_zero,List.drop_zero]at p5;refine ⟨_,?_,_,p3,p2,p5,rfl⟩;(conv=>whnf)
  refine CZ (enc:=AL) (λ_=>rfl) rfl p2.symm ?_;(conv=>whnf)
  exact AW rfl (by simp only[AZ,true_and];exact C2 _)
 ·have e1:((n+1:Nat):Int)-1=n:=by omega
  rw[e1];obtain ⟨d,hd⟩ : ∃ d,a[n]? = some d:=⟨_,zE (by omega)⟩;have y7:=hA.at hd;obtain ⟨f1,f2,f3⟩:=yQ (V:=val (a.drop (n+1))) y7 (show s<=32 by omega);obtain ⟨g1,g2,g3,g4⟩:=VG y7 (show 32-s<=32 by omega);rw[<-p4]at f2 f3;(repeat' ((first|(apply AG<;>intro hc<;>try omega)|(refine A9 (by assumption) ?_ rfl ?_;omega)|apply AE)<;>conv=>whnf))
  refine Wa (by omega) ?_;(conv=>whnf)
  skip
  refine Vy (32-s) f2 f1 (by omega) ?_;(conv=>whnf)
  (repeat' ((first|(apply A2;omega)|fail)<;>conv=>whnf))
  refine GC (by omega) ?_;(conv=>whnf)
  (repeat' ((first|(apply aO;omega)|(apply B3;omega)|(refine A9 (by assumption) ?_ rfl ?_;omega))<;>conv=>whnf))
  rw[show E9 32 s=32-s by rw[VQ];omega];refine RV (by omega) g4 ?_;(conv=>whnf)
  (repeat' ((first|(apply BL;omega)|apply G3)<;>conv=>whnf))
  rw[AiT (by omega)];refine BN [] (by (conv=>whnf);exact ⟨rfl,rfl,rfl⟩) (ih n _ _ (by omega) ⟨by omega,by simpa using p2,p3.set _ (by omega),?_,?_⟩)
  ·rw[II hd,yR (by omega)]
  ·rw[II (l:=o.set n (d/2^s+hi)) (d:=d/2^s+hi) (by rw[List.getElem?_set_self (by omega)]),List.drop_set_of_lt (by omega),p5,II hd,lR (by omega),<-p4]
theorem cY : ∀ n<256,(List.replicate 1 0++List.replicate 1 1++List.replicate 2 2++List.replicate 4 3++List.replicate 8 4++List.replicate 16 5++List.replicate 32 6++List.replicate 64 7++List.replicate 128 8)[n]? = some (n9 n):=by decide +kernel
theorem Agf (N:c8 L) (x:Nat) (hx:x<4294967296):Ev L 63 [.int .u32 (x:Int)] (.int .i64 (n9 x:Int)):=by
 have jq : ∀ y<256,n9 y<=8:=λ y h=>bC (k:=8) h
 refine Ev.x N.MZ rfl rfl ?_;(repeat' ((first|(apply AG<;>intro hc<;>try omega)|(apply AQ;omega)|apply Xh|apply Vx|(apply Ww;omega)|apply AE)<;>conv=>whnf))
 ·have Jh:=jq (x/65536/256) (by omega)
  refine aU (cY _ (by omega)) ?_;(conv=>whnf)
  (repeat' ((first|(apply AQ;omega)|(apply TZ;omega))<;>conv=>whnf))
  have h1:n9 (x/65536)+16=n9 x:=X2 16 (x:=x) (by omega);have h2:n9 (x/65536/256)+8=n9 (x/65536):=X2 8 (x:=x/65536) (by omega);refine B5 ?_;rw[<-h1,<-h2];omega
 ·have Jh:=jq (x/65536) (by omega)
  refine aU (cY _ (by omega)) ?_;(conv=>whnf)
  (repeat' ((first|(apply AQ;omega)|(apply TZ;omega))<;>conv=>whnf))
  have h1:n9 (x/65536)+16=n9 x:=X2 16 (x:=x) (by omega);refine B5 ?_;rw[<-h1];omega
 ·have Jh:=jq (x/256) (by omega)
  refine aU (cY _ (by omega)) ?_;(conv=>whnf)
  (repeat' ((first|(apply AQ;omega)|(apply TZ;omega))<;>conv=>whnf))
  have h2:n9 (x/256)+8=n9 x:=X2 8 (x:=x) (by omega);refine B5 ?_;rw[<-h2];omega
 ·have Jh:=jq (x) (by omega)
  refine aU (cY _ (by omega)) ?_;(conv=>whnf)
  (repeat' ((first|(apply AQ;omega)|(apply TZ;omega))<;>conv=>whnf))
  refine B5 ?_;omega
theorem tT (N:c8 L) (x:Nat) (hx:x<4294967296):Ev L 64 [.int .u32 (x:Int)] (.int .i64 ((32-n9 x:Nat):Int)):=by
 have h:=bC (k:=32) hx;refine Ev.x N.MY rfl rfl ?_;(repeat' ((first|(apply BL;omega)|apply AE|refine AD (Agf N x hx) ?_)<;>conv=>whnf))
 refine B5 ?_;omega
end Go.c6

namespace Go.c6
open F
attribute [local irreducible] AA AF AX AC CN AR BA A6 BV BH CM EI BO AY B0 CJ AB A5 AH pw CQ CE C8 EA DP BT CP BU C7
variable {L:Lib}
set_option maxHeartbeats 4000000
theorem KT (l:List Nat):AZ (.sl false (l.map AL)):=by
 simp only[AZ,true_and];exact C2 l
theorem qE {M:Mem} {v:AV} {ky t z off len s:Nat} {l:List Nat} (hv:v = .row ky t z off len) (h:c9 M ky=some (s,.rw 1 (l.map AL))):UD M v=none:=by
 subst hv;unfold UD;split
 ·rename_i e
  simp only[AV.row.injEq]at e;obtain ⟨rfl,_⟩:=e;rw[h];cases l with
  | nil=>rfl
  | cons a l=>cases l<;>rfl
 ·rfl
theorem HC (N:a9 L) (l:List Nat) (q:Bool) (hD:A1 l) (hl:l.length<=1099511627776):Ev L 101 [.sl q (l.map AL)] (.sl false ((dg (val l)).map AL)):=by
 refine Ev.x N.IX rfl rfl ?_;(repeat' ((first|apply AP|apply AE)<;>conv=>whnf))
 refine D4 (λ n=>n) (λ(n:Nat)=>n<=l.length /\ ∀ i,n<=i->i<l.length->l[i]? = some 0) (λ n=>[(3,.int .i64 n)]) (λ_=>[]) l.length ⟨Nat.le_refl _,λ i h1 h2=>by omega⟩ ?_;intro n ⟨p1,p2⟩ ih;rcases n with _|n
 ·have hv:=HK hD p1 p2 (Or.inl rfl)
  rw[<-hv];clear ih;(repeat' ((first|(apply AG<;>intro hc<;>try omega)|apply AE)<;>conv=>whnf))
  refine LY (k:=0) (λ_=>rfl) (by omega) ?_;(conv=>whnf)
  refine SX (enc:=AL) (λ_=>rfl) (by rw[List.length_take];omega) (by rw[List.length_take];omega) ?_;(conv=>whnf)
  (repeat' ((refine CZ (λ_=>rfl) rfl ?_ ?_;(first|rfl|simp))<;>conv=>whnf))
  exact AW rfl (KT _)
 ·have e1:((n+1:Nat):Int)-1=n:=by omega
  (repeat' ((first|(apply AG<;>intro hc<;>try omega)|(apply BL;omega)|(refine S2 (by assumption) ?_ (λ e he hb => ?_);omega)|apply AE)<;>conv=>whnf))
  ·rw[e1]
   exact BB [] (ih n (by omega) ⟨by omega,λ i h1 h2=>by
    by_cases h:i=n
    ·subst h
     rw[e1,Int.toNat_natCast]at he;rw[he];congr 1;omega
    ·exact p2 i (by omega) h2⟩)
  ·rw[e1,Int.toNat_natCast]at he
   have hv:=HK hD p1 p2 (Or.inr ⟨e,he,by omega⟩);rw[<-hv];clear ih;refine LY (k:=n+1) (λ_=>rfl) (by omega) ?_;(conv=>whnf)
   refine SX (enc:=AL) (λ_=>rfl) (by rw[List.length_take];omega) (by rw[List.length_take];omega) ?_;(conv=>whnf)
   (repeat' ((refine CZ (λ_=>rfl) rfl ?_ ?_;(first|rfl|simp))<;>conv=>whnf))
   exact AW rfl (KT _)
theorem jV (N:a9 L) (a b:List Nat) (q1 q2:Bool) (hA:A1 a) (hB:A1 b) (la:a.length<=1099511627776) (lb:b.length<=1099511627776):Ev L 102 [.sl q1 (a.map AL),.sl q2 (b.map AL)] (.int .i64 (DF (val a) (val b))):=by
 have t1:=λ q=>HC N a q hA la
 have t2:=λ q=>HC N b q hB lb
 have l1:=FM hA;have l2:=FM hB;have d1:=EF (val a);have d2:=EF (val b);refine Ev.x N.OU rfl rfl ?_;by_cases hlen:(dg (val a)).length=(dg (val b)).length
 ·have v1:=BQ (val a)
  have v2:=BQ (val b);generalize dg (val a)=X at *;generalize dg (val b)=Y at *;(repeat' ((first|(apply AG<;>intro hc<;>try omega)|(apply BL;omega)|apply AP|apply AE|refine AD (t1 _) ?_|refine AD (t2 _) ?_)<;>conv=>whnf))
  refine D4 (λ n=>n) (λ(n:Nat)=>n<=X.length/\X.drop n=Y.drop n) (λ n=>[(5,.int .i64 ((n:Int)-1))]) (λ_=>[]) X.length ⟨Nat.le_refl _,by rw[List.drop_of_length_le (Nat.le_refl _),List.drop_of_length_le (by omega)]⟩ ?_;intro n ⟨p1,p2⟩ ih;rcases n with _|n
  ·(repeat' ((first|(apply AG<;>intro hc<;>try omega)|apply AE)<;>conv=>whnf))
   rw[List.drop_zero,List.drop_zero]at p2;exact B5 (UH (by rw[<-v1,<-v2,p2]))
  ·have e1:((n+1:Nat):Int)-1=n:=by omega
   rw[e1];obtain ⟨x,hx⟩ : ∃ x,X[n]? = some x:=⟨_,zE (by omega)⟩;obtain ⟨y,hy⟩ : ∃ y,Y[n]? = some y:=⟨_,zE (by omega)⟩;rcases Nat.lt_trichotomy x y with h|h|h
   ·have:=fW d1 d2 hlen hx hy p2 h
    (repeat' ((first|(apply AG<;>intro hc<;>try omega)|(refine A9 (by assumption) ?_ rfl ?_;omega)|apply AE)<;>conv=>whnf))
    exact B5 (JL (by omega))
   ·subst h
    (repeat' ((first|(apply AG<;>intro hc<;>try omega)|(apply BL;omega)|(refine A9 (by assumption) ?_ rfl ?_;omega)|apply AE)<;>conv=>whnf))
    refine BN [] (by (conv=>whnf);exact ⟨rfl,rfl,rfl⟩) (ih n (by omega) ⟨by omega,?_⟩);obtain ⟨i1,e1⟩:=zS hx;obtain ⟨i2,e2⟩:=zS hy;rw[List.drop_eq_getElem_cons i1,List.drop_eq_getElem_cons i2,p2,e1,e2]
   ·have:=fW d2 d1 hlen.symm hy hx p2.symm h
    (repeat' ((first|(apply AG<;>intro hc<;>try omega)|(refine A9 (by assumption) ?_ rfl ?_;omega)|apply AE)<;>conv=>whnf))
    exact B5 (Q0 (by omega))
 ·rcases Nat.lt_trichotomy (dg (val a)).length (dg (val b)).length with h1|h1|h1
  ·have:=XH h1
   (repeat' ((first|(apply AG<;>intro hc<;>try omega)|apply AP|apply AE|refine AD (t1 _) ?_|refine AD (t2 _) ?_)<;>conv=>whnf))
   exact B5 (JL (by omega))
  ·exact absurd h1 hlen
  ·have:=XH h1
   (repeat' ((first|(apply AG<;>intro hc<;>try omega)|apply AP|apply AE|refine AD (t1 _) ?_|refine AD (t2 _) ?_)<;>conv=>whnf))
   exact B5 (Q0 (by omega))
theorem oO {y:List Nat} (i:Nat):val (y.take (i+1))=val (y.take i)+4294967296^i*y.getD i 0:=by
 rcases Nat.lt_or_ge i y.length with h|h
 ·rw[ER (zE h),HV (zE h)]
 ·rw[<-TH h,DH h,DH (by omega)];omega
theorem uV (N:a9 L) (a b:List Nat) (q1 q2:Bool) (hA:A1 a) (hB:A1 b) (la:a.length<=549755813888) (lb:b.length<=549755813888):Ev L 103 [.sl q1 (a.map AL),.sl q2 (b.map AL)] (.sl false ((dg (val a+val b)).map AL)):=by
 refine Ev.x N.OS rfl rfl ?_;(repeat' (apply AE<;>conv=>whnf))
 refine G9 (λ i _ _=>a.length+b.length-i) (λ(i:Nat) (o:List Nat) (c:Nat)=>(i<=a.length\/i<=b.length)/\o.length=i/\A1 o/\c<=1/\val o+4294967296^i*c=val (a.take i)+val (b.take i)) (λ i o c=>[(7,.int .i64 i),(6,.int .u64 (c:Int)),(5,.row 5 0 1 0 o.length)]) (λ i o c=>[(5,5,.rw 1 (o.map AL))]) 0 [] 0 ⟨by omega,rfl,WA,by omega,by simp [val]⟩ ?_;intro i o c ⟨p1,p2,p3,p4,p5⟩ ih;by_cases hi:i<a.length\/i<b.length
 ·have g1:=oO (y:=a) i
  have g2:=oO (y:=b) i;have k1:=TG hA i;have k2:=TG hB i;have k7 : ∀ t,t=c+a.getD i 0+b.getD i 0->val (o++[t%4294967296])+4294967296^(i+1)*(t/4294967296)=val (a.take (i+1))+val (b.take (i+1)):=λ t ht=>by
   have h3:=R1 (val o) (4294967296^i) t;rw[QE,p2,g1,g2,Nat.pow_succ];rw[h3,ht,Nat.mul_add,Nat.mul_add];omega
  by_cases h1:i<a.length
  ·obtain ⟨x,hx⟩ : ∃ x,a[i]? = some x:=⟨_,zE h1⟩
   have Gz:=hA.at hx;rw[HV hx]at k7;by_cases h2:i<b.length
   ·obtain ⟨y,hy⟩ : ∃ y,b[i]? = some y:=⟨_,zE h2⟩
    have Bb:=hB.at hy;rw[HV hy]at k7;(repeat' ((first|(apply AG<;>intro hc<;>try omega)|(apply HB;omega)|(apply B3;omega)|apply G3|apply AP|(refine A9 (by assumption) ?_ rfl ?_;omega)|apply DQ|apply AE)<;>conv=>whnf))
    refine FA (enc:=AL) (((c+x+y)%4294967296:Nat)) rfl rfl rfl (by omega) (by omega) ?_;(conv=>whnf)
    (repeat' ((first|(apply AQ;omega)|apply GL)<;>conv=>whnf))
    refine BN [(5,46)] (by (conv=>whnf);exact ⟨rfl,rfl,rfl⟩) (ih (i+1) (o++[(c+x+y)%4294967296]) ((c+x+y)/4294967296) (by omega) ⟨by omega,by simp;omega,p3.append (IO (by omega)),by omega,?_⟩);exact k7 (c+x+y) (by omega)
   ·rw[<-TH (show b.length<=i by omega)]at k7
    (repeat' ((first|(apply AG<;>intro hc<;>try omega)|(apply HB;omega)|(apply B3;omega)|apply G3|apply AP|(refine A9 (by assumption) ?_ rfl ?_;omega)|apply DQ|apply AE)<;>conv=>whnf))
    refine FA (enc:=AL) (((c+x)%4294967296:Nat)) rfl rfl rfl (by omega) (by omega) ?_;(conv=>whnf)
    (repeat' ((first|(apply AQ;omega)|apply GL)<;>conv=>whnf))
    refine BN [(5,46)] (by (conv=>whnf);exact ⟨rfl,rfl,rfl⟩) (ih (i+1) (o++[(c+x)%4294967296]) ((c+x)/4294967296) (by omega) ⟨by omega,by simp;omega,p3.append (IO (by omega)),by omega,?_⟩);exact k7 (c+x) (by omega)
  ·obtain ⟨y,hy⟩ : ∃ y,b[i]? = some y:=⟨_,zE (by omega)⟩
   have Bb:=hB.at hy;rw[HV hy,<-TH (show a.length<=i by omega)]at k7;(repeat' ((first|(apply AG<;>intro hc<;>try omega)|(apply HB;omega)|(apply B3;omega)|apply G3|apply AP|(refine A9 (by assumption) ?_ rfl ?_;omega)|apply DQ|apply AE)<;>conv=>whnf))
   refine FA (enc:=AL) (((c+y)%4294967296:Nat)) rfl rfl rfl (by omega) (by omega) ?_;(conv=>whnf)
   (repeat' ((first|(apply AQ;omega)|apply GL)<;>conv=>whnf))
   refine BN [(5,46)] (by (conv=>whnf);exact ⟨rfl,rfl,rfl⟩) (ih (i+1) (o++[(c+y)%4294967296]) ((c+y)/4294967296) (by omega) ⟨by omega,by simp;omega,p3.append (IO (by omega)),by omega,?_⟩);exact k7 (c+y) (by omega)
 ·clear ih
  have hv:val (o++[c])=val a+val b:=by
   rw[DH (by omega),DH (by omega)]at p5;rw[QE,p2,p5]
  have hT:=λ q=>HC N (o++[c]) q (p3.append (IO (by omega))) (by simp;omega)
  rw[hv]at hT;(repeat' ((first|(apply AG<;>intro hc<;>try omega)|(apply E2;omega)|apply AP|apply DQ|apply AE)<;>conv=>whnf))
  refine FA (enc:=AL) c rfl rfl rfl (by omega) (by omega) ?_;(conv=>whnf)
  (repeat' ((first|(refine CZ (λ_=>rfl) rfl ?_ ?_;(first|rfl|simp))|refine AD (hT _) ?_)<;>conv=>whnf))
  exact AW rfl (KT _)
theorem bP {a b:Nat} (h:b<=a):0<=DF a b:=by unfold DF;split<;>(try split)<;>omega
theorem Akh {V Y X p d e bw have' take w au:Nat} (h:V+Y=X+p*bw) (h1:take=bw+e) (h2:(have'=d/\au=0/\take<=d)\/(have'=d+4294967296/\au=1/\d<take)) (h3:w+take=have'):V+p*w+(Y+p*e)=X+p*d+p*4294967296*au:=by
 have h4:w+bw+e=d+4294967296*au:=by omega
 have h5:p*(w+bw+e)=p*(d+4294967296*au):=by rw[h4]
 rw[Nat.mul_add,Nat.mul_add,Nat.mul_add,<-Nat.mul_assoc]at h5;omega
theorem Oh (N:a9 L) (x y:List Nat) (hX:A1 x) (hY:A1 y) (lx:x.length<=549755813888) (ly:y.length<=549755813888) (hle:val y<=val x) :
  AA L [It.lp KI.l1,It.e8 0,It.code (((BG.ops KI.z9 false).dr [1,5,6,7,21,53,54] []).seq BG.ret)]
  [(7,AV.int IntKind.i64 0),(6,AV.int IntKind.u64 0),(5,AV.row 101021 0 1 0 x.length),(1,AV.sl false (List.map AL y))]
  [(101021,101021,A8.rw 1 (List.map AL x))]
  (RW KI (AV.sl false (List.map AL (dg (val x-val y))))):=by
 refine G9 (λ i _ _=>x.length-i) (λ(i:Nat) (o:List Nat) (bw:Nat)=>i<=x.length/\o.length=x.length/\A1 o/\bw<=1/\o.drop i=x.drop i/\val (o.take i)+val (y.take i)=val (x.take i)+4294967296^i*bw) (λ i o bw=>[(7,.int .i64 i),(6,.int .u64 (bw:Int))]) (λ i o bw=>[(101021,101021,.rw 1 (o.map AL))]) 0 x 0 ⟨by omega,rfl,hX,by omega,rfl,by simp [val]⟩ ?_;intro i o bw ⟨p1,p2,p3,p4,p5,p6⟩ ih;by_cases hi:i<x.length
 ·obtain ⟨d,hd⟩ : ∃ d,o[i]? = some d:=⟨_,zE (by omega)⟩
  have y7:=p3.at hd;have hxi:x[i]? = some d:=by
   have e1:(o.drop i)[0]? = (x.drop i)[0]? := by rw[p5]
   simpa [hd] using e1.symm
  have g1:=ER hxi;have g2:=oO (y:=y) i;have ge:=TG hY i;have k7 : ∀ have' take w au,take=bw+y.getD i 0->((have'=d/\au=0/\take<=d)\/(have'=d+4294967296/\au=1/\d<take))->w+take=have'->val ((o.set i w).take (i+1))+val (y.take (i+1))=val (x.take (i+1))+4294967296^(i+1)*au:=λ have' take w au a1 a2 a3=>by
   rw[G8 (by omega),g1,g2,Nat.pow_succ];exact Akh p6 a1 a2 a3
  have mq : ∀ w,(o.set i w).drop (i+1)=x.drop (i+1):=λ w=>by
   rw[List.drop_set_of_lt (by omega)];have e1:(o.drop i).drop 1=(x.drop i).drop 1:=by rw[p5]
   simpa using e1
  by_cases hy:i<y.length
  ·obtain ⟨e,he⟩ : ∃ e,y[i]? = some e:=⟨_,zE hy⟩
   have Jt:=hY.at he;rw[HV he]at k7;by_cases j9:d<bw+e
   ·have h3:=k7 (d+4294967296) (bw+e) (d+4294967296-(bw+e)) 1 (by omega) (Or.inr ⟨rfl,rfl,j9⟩) (by omega)
    (repeat' ((first|(apply AG<;>intro hc<;>try omega)|(apply A2;omega)|(apply HB;omega)|(apply J8;omega;omega)|(apply aJ;omega)|(apply B3;omega)|(apply E2;omega)|apply AP|(refine A9 (by assumption) ?_ rfl ?_;omega)|refine KR (by assumption) ?_|apply AE)<;>conv=>whnf))
    refine GC (by omega) ?_;(conv=>whnf)
    (repeat' ((first|(apply AQ;omega)|fail)<;>conv=>whnf))
    exact BN [] (by (conv=>whnf);exact ⟨rfl,rfl,rfl⟩) (ih (i+1) (o.set i (d+4294967296-(bw+e))) 1 (by omega) ⟨by omega,by simpa using p2,p3.set _ (by omega),by omega,mq _,h3⟩)
   ·have h3:=k7 d (bw+e) (d-(bw+e)) 0 (by omega) (Or.inl ⟨rfl,rfl,by omega⟩) (by omega)
    (repeat' ((first|(apply AG<;>intro hc<;>try omega)|(apply A2;omega)|(apply HB;omega)|(apply J8;omega;omega)|(apply B3;omega)|(apply E2;omega)|apply AP|(refine A9 (by assumption) ?_ rfl ?_;omega)|refine KR (by assumption) ?_|apply AE)<;>conv=>whnf))
    refine GC (by omega) ?_;(conv=>whnf)
    (repeat' ((first|(apply AQ;omega)|fail)<;>conv=>whnf))
    exact BN [] (by (conv=>whnf);exact ⟨rfl,rfl,rfl⟩) (ih (i+1) (o.set i (d-(bw+e))) 0 (by omega) ⟨by omega,by simpa using p2,p3.set _ (by omega),by omega,mq _,h3⟩)
  ·rw[<-TH (show y.length<=i by omega)]at k7
   by_cases j9:d<bw
   ·have h3:=k7 (d+4294967296) (bw) (d+4294967296-(bw)) 1 (by omega) (Or.inr ⟨rfl,rfl,j9⟩) (by omega)
    (repeat' ((first|(apply AG<;>intro hc<;>try omega)|(apply A2;omega)|(apply J8;omega;omega)|(apply aJ;omega)|(apply B3;omega)|(apply E2;omega)|apply AP|refine KR (by assumption) ?_|apply AE)<;>conv=>whnf))
    refine GC (by omega) ?_;(conv=>whnf)
    (repeat' ((first|(apply AQ;omega)|fail)<;>conv=>whnf))
    exact BN [] (by (conv=>whnf);exact ⟨rfl,rfl,rfl⟩) (ih (i+1) (o.set i (d+4294967296-(bw))) 1 (by omega) ⟨by omega,by simpa using p2,p3.set _ (by omega),by omega,mq _,h3⟩)
   ·have h3:=k7 d (bw) (d-(bw)) 0 (by omega) (Or.inl ⟨rfl,rfl,by omega⟩) (by omega)
    (repeat' ((first|(apply AG<;>intro hc<;>try omega)|(apply A2;omega)|(apply J8;omega;omega)|(apply B3;omega)|(apply E2;omega)|apply AP|refine KR (by assumption) ?_|apply AE)<;>conv=>whnf))
    refine GC (by omega) ?_;(conv=>whnf)
    (repeat' ((first|(apply AQ;omega)|fail)<;>conv=>whnf))
    exact BN [] (by (conv=>whnf);exact ⟨rfl,rfl,rfl⟩) (ih (i+1) (o.set i (d-(bw))) 0 (by omega) ⟨by omega,by simpa using p2,p3.set _ (by omega),by omega,mq _,h3⟩)
 ·obtain rfl:i=x.length:=by omega
  clear ih;rw[DH (by omega),DH (Nat.le_refl _)]at p6;have h1:=F2 p3;rw[p2]at h1;have h2:val (y.take x.length)<=val y:=by have:=VP y x.length;omega
  have jc:bw=0:=by
   rcases Nat.eq_zero_or_pos bw with h|h
   ·exact h
   ·have:bw=1:=by omega
    subst this;omega
  subst jc;have hve:val (y.take x.length)=val y:=by
   have h3:=VP y x.length;rcases Nat.eq_zero_or_pos (val (y.drop x.length)) with h|h
   ·rw[h]at h3;omega
   ·have h4:4294967296^x.length*1<=4294967296^x.length*val (y.drop x.length):=Nat.mul_le_mul_left _ h
    have h5:=F2 hX;omega
  have hv:val o=val x-val y:=by omega
  have hT:=λ q=>HC N o q p3 (by omega)
  rw[<-hv,<-p2];(repeat' ((first|(apply AG<;>intro hc<;>try omega)|(refine CZ (λ_=>rfl) rfl ?_ ?_;(first|rfl|simp))|apply AE|refine AD (hT _) ?_)<;>conv=>whnf))
  exact AW rfl (KT _)
theorem jW (N:a9 L) (a b:List Nat) (q1 q2:Bool) (hA:A1 a) (hB:A1 b) (la:a.length<=549755813888) (lb:b.length<=549755813888):Ev L 104 [.sl q1 (a.map AL),.sl q2 (b.map AL)] (.sl false ((dg (val a-val b)).map AL)):=by
 have l7:=λ q q'=>jV N a b q q' hA hB (by omega) (by omega)
 have t2:=λ q=>HC N b q hB (by omega)
 refine Ev.x N.KI rfl rfl ?_;by_cases j9:val a<val b
 ·rw[<-JL (by omega)]at l7
  rw[show val a-val b=0 by omega,FZ];(repeat' ((first|(apply AG<;>intro hc<;>try omega)|apply AE|refine AD (l7 _ _) ?_)<;>conv=>whnf))
  exact AW rfl (KT [])
 ·have km:=bP (show val b<=val a by omega)
  generalize DF (val a) (val b)=cm at *;have d2:=EF (val b);have v2:=BQ (val b);have l2:=FM hB;rw[<-v2];rw[<-v2]at j9;generalize dg (val b)=y at *;have Tj : ∀ n,a.take n=dg (val a)->val (a.take n)=val a:=λ n h=>by rw[h,BQ]
  (repeat' ((first|(apply AG<;>intro hc<;>try omega)|apply AE|refine AD (l7 _ _) ?_|refine AD (t2 _) ?_)<;>conv=>whnf))
  refine HR 1000 N.IX rfl rfl ?_;(repeat' ((first|apply AP|apply AE)<;>conv=>whnf))
  refine D4 (λ n=>n) (λ(n:Nat)=>n<=a.length /\ ∀ i,n<=i->i<a.length->a[i]? = some 0) (λ n=>[(3,.int .i64 n)]) (λ_=>[]) a.length ⟨Nat.le_refl _,λ i h1 h2=>by omega⟩ ?_;intro n ⟨p1,p2⟩ ih;rcases n with _|n
  ·have hv:=Tj _ (HK hA p1 p2 (Or.inl rfl))
   clear ih;(repeat' ((first|(apply AG<;>intro hc<;>try omega)|apply AE)<;>conv=>whnf))
   refine LY (k:=0) (λ_=>rfl) (by omega) ?_;(conv=>whnf)
   refine SX (enc:=AL) (λ_=>rfl) (by rw[List.length_take];omega) (by rw[List.length_take];omega) ?_;(conv=>whnf)
   refine ⟨rfl,_,rfl,?_⟩;(conv=>whnf)
   skip
   rw[<-hv];exact BN [] (by (conv=>whnf);exact ⟨rfl,rfl,rfl⟩) (Oh N (a.take 0) y (hA.take _) d2 (by simp) (by omega) (by omega))
  ·have e1:((n+1:Nat):Int)-1=n:=by omega
   (repeat' ((first|(apply AG<;>intro hc<;>try omega)|(apply BL;omega)|(refine S2 (by assumption) ?_ (λ e he hb => ?_);omega)|apply AE)<;>conv=>whnf))
   ·rw[e1]
    exact BB [] (ih n (by omega) ⟨by omega,λ i h1 h2=>by
     by_cases h:i=n
     ·subst h
      rw[e1,Int.toNat_natCast]at he;rw[he];congr 1;omega
     ·exact p2 i (by omega) h2⟩)
   ·rw[e1,Int.toNat_natCast]at he
    have hv:=Tj _ (HK hA p1 p2 (Or.inr ⟨_,he,by omega⟩));clear ih;refine LY (k:=n+1) (λ_=>rfl) (by omega) ?_;(conv=>whnf)
    refine SX (enc:=AL) (λ_=>rfl) (by rw[List.length_take];omega) (by rw[List.length_take];omega) ?_;(conv=>whnf)
    refine ⟨rfl,_,rfl,?_⟩;(conv=>whnf)
    skip
    rw[<-hv];exact BN [] (by (conv=>whnf);exact ⟨rfl,rfl,rfl⟩) (Oh N (a.take (n+1)) y (hA.take _) d2 (by rw[List.length_take];omega) (by omega) (by omega))
theorem AgV (N:a9 L) (x y:List Nat) (q1 q2:Bool) (hA:A1 x) (hB:A1 y) (Uz:x.length+y.length<=549755813888):Ev L 105 [.sl q1 (x.map AL),.sl q2 (y.map AL)] (.sl false ((dg (val x*val y)).map AL)):=by
 refine Ev.x N.OW rfl rfl ?_;(repeat' ((first|(apply AQ;omega)|apply AP|apply AE)<;>conv=>whnf))
 refine D9 (enc:=AL) 0 (x.length+y.length+1) rfl (by omega) (by omega) ?_;(conv=>whnf)
 skip
 refine FU (λ i _=>x.length-i) (λ(i:Nat) (o:List Nat)=>i<=x.length/\o.length=x.length+y.length+1/\A1 o/\val o=val (x.take i)*val y /\ ∀ k,i+y.length<=k->k<o.length->o[k]? = some 0) (λ i o=>[(6,.int .i64 i)]) (λ i o=>[(15,15,.rw 1 (o.map AL))]) 0 (List.replicate (x.length+y.length+1) 0) ⟨by omega,by simp,KF _,by simp [val,gA],λ k h1 h2=>by simp at h2;simp [h2]⟩ ?_;intro i O ⟨p1,p2,p3,p4,p5⟩ ih;by_cases hi:i<x.length
 ·obtain ⟨d,hd⟩ : ∃ d,x[i]? = some d:=⟨_,zE hi⟩
  have y7:=hA.at hd;(repeat' ((first|(apply AG<;>intro hc<;>try omega)|apply AP|apply AE)<;>conv=>whnf))
  refine G9 (λ j _ _=>y.length-j) (λ(j:Nat) (o:List Nat) (c:Nat)=>j<=y.length/\o.length=x.length+y.length+1/\A1 o/\c<4294967296/\val o+4294967296^(i+j)*c=val O+4294967296^i*(d*val (y.take j)) /\ ∀ k,i+j<=k->o[k]? = O[k]?) (λ j o c=>[(7,.int .u64 (c:Int)),(8,.int .i64 j)]) (λ j o c=>[(15,15,.rw 1 (o.map AL))]) 0 O 0 ⟨by omega,p2,p3,by omega,by simp [val],λ_ _=>rfl⟩ ?_;intro j o c ⟨r1,r2,r3,r4,r5,r6⟩ jh;have e1:((i:Int)+j).toNat=i+j:=by omega
  by_cases hj:j<y.length
  ·obtain ⟨w,hw⟩ : ∃ w,y[j]? = some w:=⟨_,zE hj⟩
   have Lk:=hB.at hw;have hm:=WX y7 Lk;(repeat' ((first|(apply AG<;>intro hc<;>try omega)|(apply A2;omega)|(apply AQ;omega)|(apply HB;omega)|(apply RS;omega)|(apply B3;omega)|apply G3|apply AP|(refine A9 (by assumption) ?_ rfl ?_;omega)|(refine pI (by assumption) ?_ (λ v hv hb => ?_);omega)|apply AE)<;>conv=>whnf))
   refine aT (i+j) (by omega) (by omega) ?_;(conv=>whnf)
   (repeat' ((first|(apply AQ;omega)|apply GL)<;>conv=>whnf))
   refine BN [] (by (conv=>whnf);exact ⟨rfl,rfl,rfl⟩) (jh (j+1) _ _ (by omega) ⟨by omega,by simpa using r2,r3.set _ (by omega),by omega,?_,?_⟩)
   ·have h1:=fX (v:=(c+(d*w+v))%4294967296) hv
    have h2:=R1 0 (4294967296^(i+j)) (c+(d*w+v));rw[ER hw,show i+(j+1)=i+j+1 by omega,Nat.pow_succ (4294967296) (i+j)];have h3:4294967296^i*(d*(val (y.take j)+4294967296^j*w))=4294967296^i*(d*val (y.take j))+4294967296^(i+j)*(d*w):=by rw[Nat.pow_add];grind
    rw[h3];generalize 4294967296^(i+j)=P at *;rw[Nat.mul_add P c,Nat.mul_add P]at h2;omega
   ·intro k hk
    rw[List.getElem?_set_ne (by omega)];exact r6 k (by omega)
  ·obtain rfl:j=y.length:=by omega
   clear jh;have hz:=r6 (i+y.length) (by omega);rw[p5 (i+y.length) (by omega) (by omega)]at hz;(repeat' ((first|(apply AG<;>intro hc<;>try omega)|(apply A2;omega)|(apply AQ;omega)|(apply E2;omega)|apply AP|apply AE)<;>conv=>whnf))
   refine aT (i+y.length) (by omega) (by omega) ?_;(conv=>whnf)
   (repeat' ((first|(apply AQ;omega)|fail)<;>conv=>whnf))
   refine BN [] (by (conv=>whnf);exact ⟨rfl,rfl,rfl⟩) (ih (i+1) _ (by omega) ⟨by omega,by simpa using r2,r3.set _ (by omega),?_,?_⟩)
   ·have h1:=fX (v:=c) hz
    rw[Nat.mul_zero,Nat.add_zero]at h1;rw[h1,r5,p4,DH (Nat.le_refl _),ER hd,Nat.add_mul,Nat.mul_assoc]
   ·intro k h1 h2
    rw[List.length_set]at h2;rw[List.getElem?_set_ne (by omega),r6 k (by omega)];exact p5 k (by omega) (by omega)
 ·obtain rfl:i=x.length:=by omega
  clear ih;rw[DH (Nat.le_refl _)]at p4;have hT:=λ q=>HC N O q p3 (by omega)
  rw[p4]at hT;rw[<-p2];(repeat' ((first|(apply AG<;>intro hc<;>try omega)|apply AP|(refine CZ (λ_=>rfl) rfl ?_ ?_;(first|rfl|simp))|apply AE|refine AD (hT _) ?_)<;>conv=>whnf))
  exact AW rfl (KT _)
theorem Ae0 {d:Nat} (h0:d≠0) (hd:d<4294967296):dg d=[d]:=by
 rw[KE h0,Nat.div_eq_of_lt hd,FZ,Nat.mod_eq_of_lt hd]
theorem AgT (N:a9 L) (d:Nat) (q:Bool) (h0:d≠0) (hd:d<4294967296):Ev L 106 [.sl q ([d].map AL)] (.int .i64 (n9 d:Int)):=by
 have hT:=λ q=>HC N [d] q (IO hd) (by simp)
 rw[show val [d]=d by simp [val],Ae0 h0 hd]at hT;have rh:[d].length=1:=rfl;have nr:[d][(([d].length:Int)-1).toNat]? = some d:=rfl;have hb:=bC (k:=32) hd;refine Ev.x N.OT rfl rfl ?_;(repeat' ((first|(apply AG<;>intro hc<;>try omega)|(apply BL;omega)|(apply FW;omega)|apply AP|(refine A9 (by assumption) ?_ rfl ?_;omega)|apply AE|refine AD (hT _) ?_)<;>conv=>whnf))
 refine FU (λ_ x=>x) (λ(n x:Nat)=>n+n9 x=n9 d/\x<=d) (λ n x=>[(3,.int .i64 n),(4,.int .u32 (x:Int))]) (λ_ _=>[]) 0 d ⟨by omega,Nat.le_refl _⟩ ?_;intro n x ⟨p1,p2⟩ ih;by_cases hx:x=0
 ·subst hx
  have:n9 0=0:=by unfold n9;simp
  (repeat' ((first|(apply AG<;>intro hc<;>try omega)|apply AE)<;>conv=>whnf))
  exact B5 (by omega)
 ·have h1:n9 (x/2)+1=n9 x:=by
   by_cases h1:x=1
   ·subst h1;decide
   ·exact X2 1 (x:=x) (by omega)
  (repeat' ((first|(apply AG<;>intro hc<;>try omega)|(apply AQ;omega)|apply Xg|apply AE)<;>conv=>whnf))
  exact BB [] (ih (n+1) (x/2) (by omega) ⟨by omega,by omega⟩)
theorem Pu {V P X lo s d p t:Nat} (h:V+P*p*lo=P*(X*2^s)) (ht:t=lo+d*2^s):V+P*p*(t%4294967296)+P*p*4294967296*(t/4294967296)=P*((X+p*d)*2^s):=by
 have h1:=R1 V (P*p) t;rw[h1,ht];have:P*((X+p*d)*2^s)=P*(X*2^s)+P*p*(d*2^s):=by grind
 rw[this,<-h,Nat.mul_add];omega
theorem uX (N:a9 L) (l:List Nat) (q:Bool) (n:Nat) (hD:A1 l) (hl:l.length<=549755813888) (hn:n<=65536):Ev L 107 [.sl q (l.map AL),.int .i64 (n:Int)] (.sl false ((dg (val l*2^n)).map AL)):=by
 have hT:=λ q=>HC N l q hD (by omega)
 have d1:=EF (val l);have v1:=BQ (val l);have l1:=FM hD;have hz:=JN (val l);refine Ev.x N.JX rfl rfl ?_;by_cases h0:val l=0
 ·rw[h0,Nat.zero_mul,FZ]
  (repeat' ((first|(apply AG<;>intro hc<;>try omega)|apply AP|apply AE|refine AD (hT _) ?_)<;>conv=>whnf))
  exact AW rfl (KT [])
 rw[<-v1];generalize dg (val l)=x at *;have bj:n%32<32:=Nat.mod_lt _ (by omega);have e1:(n:Int)/32=((n/32:Nat):Int):=by omega
 have e2:(n:Int)%32=((n%32:Nat):Int):=by omega
 (repeat' ((first|(apply AG<;>intro hc<;>try omega)|(refine LI ?_ ?_ (λ_ => ?_) (λ_ _ => ?_);omega;omega;all_goals try omega)|apply AP|apply AE|refine AD (hT _) ?_)<;>conv=>whnf))
 rw[e1];refine D9 (enc:=AL) 0 (n/32) rfl rfl (by omega) ?_;(conv=>whnf)
 skip
 refine G9 (λ i _ _=>x.length-i) (λ(i:Nat) (o:List Nat) (c:Nat)=>i<=x.length/\o.length=n/32+i/\A1 o/\c<2^(n%32)/\val o+4294967296^(n/32)*4294967296^i*c=4294967296^(n/32)*(val (x.take i)*2^(n%32))) (λ i o c=>[(10,.int .i64 i),(9,.int .u64 (c:Int)),(8,.row 107069 0 1 0 (n/32+i))]) (λ i o c=>[(107069,107069,.rw 1 (o.map AL))]) 0 (List.replicate (n/32) 0) 0 ⟨by omega,by simp,KF _,Nat.two_pow_pos _,by simp [val,gA]⟩ ?_;intro i o c ⟨p1,p2,p3,p4,p5⟩ ih;have pn:=ZJ (s:=n%32) (by omega);by_cases hi:i<x.length
 ·obtain ⟨d,hd⟩ : ∃ d,x[i]? = some d:=⟨_,zE hi⟩
  have y7:=d1.at hd;obtain ⟨f1,f2,f3,f4⟩:=VG (s:=n%32) y7 (by omega);have hr:=dG (show n%32<=64 by omega) f4;(repeat' ((first|(apply AG<;>intro hc<;>try omega)|(refine QP ?_ (λ_ _ _ => ?_) (λ_ _ _ _ => ?_);omega;all_goals try omega)|(apply B3;omega)|apply AP|(refine A9 (by assumption) ?_ rfl ?_;omega)|apply AE)<;>conv=>whnf))
  rw[e2];refine RV (by omega) f4 ?_;(conv=>whnf)
  skip
  refine aK (n%32) (Nat.mul_mod_left _ _) p4 (by omega) ?_;(conv=>whnf)
  have k7:=Pu (d:=d) p5 rfl;have qo:(c+d*2^(n%32))/4294967296<2^(n%32):=by
   rw[Nat.div_lt_iff_lt_mul (by omega)];have:=zR (2^(n%32)) (show d<=4294967295 by omega)
   omega
  generalize c+d*2^(n%32)=t at *;(repeat' ((first|apply G3|apply DQ)<;>conv=>whnf))
  refine FA (enc:=AL) (t%4294967296) rfl p2.symm rfl (by omega) (by omega) ?_;(conv=>whnf)
  (repeat' ((first|(apply AQ;omega)|apply GL)<;>conv=>whnf))
  rw[show (o++[t%4294967296]).length=n/32+(i+1) by simp [p2];omega];refine BN [(107069,107091)] (by (conv=>whnf);exact ⟨rfl,rfl,rfl⟩) (ih (i+1) (o++[t%4294967296]) (t/4294967296) (by omega) ⟨by omega,by simp;omega,p3.append (IO (by omega)),qo,?_⟩);rw[QE,p2,ER hd,Nat.pow_add,Nat.pow_succ,<-Nat.mul_assoc];exact k7
 ·obtain rfl:i=x.length:=by omega
  clear ih;have ke:c<4294967296:=by omega
  have hOD:A1 (o++[c]):=p3.append (IO ke);have Cb:val (o++[c])=val x*2^n:=by
   rw[QE,p2,Nat.pow_add,p5,DH (Nat.le_refl _)];have e3:2^n=4294967296^(n/32)*2^(n%32):=by
    rw[show 4294967296=2^32 from rfl,<-Nat.pow_mul,<-Nat.pow_add];congr 1;omega
   rw[e3];grind
  have Ca:(o++[c]).length=n/32+x.length+1:=by simp [p2]
  (repeat' ((first|(apply AG<;>intro hc<;>try omega)|(apply E2;omega)|apply AP|apply DQ|apply AE)<;>conv=>whnf))
  refine FA (enc:=AL) c rfl p2.symm rfl (by omega) (by omega) ?_;(conv=>whnf)
  rw[<-Cb,Ca];generalize o++[c]=O at *;rw[<-Ca];clear p3 p4 p5 Cb;refine HR 1000 N.IX rfl rfl ?_;(repeat' (apply AE<;>conv=>whnf))
  refine D4 (λ n=>n) (λ(n:Nat)=>n<=(O).length /\ ∀ i,n<=i->i<(O).length->(O)[i]? = some 0) (λ n=>[(3,.int .i64 n)]) (λ_=>[]) (O).length ⟨Nat.le_refl _,λ i h1 h2=>by omega⟩ ?_;intro n ⟨p1,p2⟩ ih;rcases n with _|n
  ·(repeat' ((first|(apply AG<;>intro hc<;>try omega)|apply AE)<;>conv=>whnf))
   refine H5 0 (by omega) (by omega) ?_;(conv=>whnf)
   have bg:=HK (l:=O) (by assumption) p1 p2 (Or.inl rfl);have n6:(List.take 0 O).length<=(O).length:=by rw[List.length_take];omega
   clear ih p2;refine aR (enc:=AL) (by omega) ?_;(conv=>whnf)
   rw[List.drop_zero,Nat.sub_zero];generalize Ad:List.take 0 O=T0 at *;refine SX (enc:=AL) (λ_=>rfl) (by omega) (by omega) ?_;(conv=>whnf)
   refine ⟨rfl,_,rfl,?_⟩;(conv=>whnf)
   (refine CZ (enc:=AL) (λ_=>rfl) rfl rfl ?_;(conv=>whnf);exact AW (by rw[<-bg]) (KT _))
  ·have e1:((n+1:Nat):Int)-1=n:=by omega
   (repeat' ((first|(apply AG<;>intro hc<;>try omega)|(apply A2;omega)|(apply BL;omega)|(refine T8 (by assumption) ?_ (λ v hv hb => ?_);omega)|apply AE)<;>conv=>whnf))
   ·rw[e1]
    exact BB [] (ih n (by omega) ⟨by omega,λ i h1 h2=>by
     by_cases h:i=n
     ·subst h
      rw[e1,Int.toNat_natCast]at hv;rw[hv];congr 1;omega
     ·exact p2 i (by omega) h2⟩)
   ·refine H5 (n+1) (by omega) (by omega) ?_
    (conv=>whnf)
    rw[e1,Int.toNat_natCast]at hv;have bg:=HK (l:=O) (by assumption) p1 p2 (Or.inr ⟨_,hv,by omega⟩);have n6:(List.take (n+1) O).length<=(O).length:=by rw[List.length_take];omega
    clear ih p2 hv;(rw[qE (l:=O)];rotate_left;exact rfl;exact rfl);(conv=>whnf)
    refine aR (enc:=AL) (by omega) ?_;(conv=>whnf)
    rw[List.drop_zero,Nat.sub_zero];generalize Ad:List.take (n+1) O=T0 at *;refine SX (enc:=AL) (λ_=>rfl) (by omega) (by omega) ?_;(conv=>whnf)
    refine ⟨rfl,_,rfl,?_⟩;(conv=>whnf)
    (refine CZ (enc:=AL) (λ_=>rfl) rfl rfl ?_;(conv=>whnf);exact AW (by rw[<-bg]) (KT _))
theorem AlA {l:List Nat} (hD:A1 l) (k:Nat) (hk:k<=l.length):val (l.drop k)=val l/4294967296^k:=by
 have h1:=LE l k hk;have h2:=F2 (hD.take k);rw[List.length_take,Nat.min_eq_left hk]at h2;rw[h1,Nat.add_mul_div_left _ _ (Nat.pow_pos (by omega)),Nat.div_eq_of_lt h2,Nat.zero_add]
theorem AjJ (n:Nat):2^n=4294967296^(n/32)*2^(n%32):=by
 rw[show 4294967296=2^32 from rfl,<-Nat.pow_mul,<-Nat.pow_add];congr 1;omega
theorem AfN {d e V r:Nat} (hd:d<4294967296) (hr:r<32):(d+e*4294967296)/2^r%4294967296+4294967296*((e+4294967296*V)/2^r)=(d+4294967296*(e+4294967296*V))/2^r:=by
 obtain ⟨f1,f2,f3⟩:=yQ (V:=e) hd (show r<=32 by omega);rw[lR (d:=d) (V:=e+4294967296*V) (by omega),yR (d:=e) (V:=V) (by omega)];have h1:=lR (d:=d) (V:=e) (s:=r) (by omega);rw[show d+e*4294967296=d+4294967296*e by omega,h1];clear h1;generalize d/2^r=A at *;generalize e%2^r*2^(32-r)=Q at *;generalize e/2^r=Z at *;generalize 2^(32-r)=P at *;omega
theorem AgW (N:a9 L) (l:List Nat) (q:Bool) (n:Nat) (hD:A1 l) (hl:l.length<=549755813888) (hn:1<=n/\n<=65536):Ev L 107 [.sl q (l.map AL),.int .i64 (-(n:Int))] (.sl false ((dg (val l/2^n)).map AL)):=by
 have hT:=λ q=>HC N l q hD (by omega)
 have d1:=EF (val l);have v1:=BQ (val l);have l1:=FM hD;have hz:=JN (val l);refine Ev.x N.JX rfl rfl ?_;by_cases h0:val l=0
 ·rw[h0,Nat.zero_div,FZ]
  (repeat' ((first|(apply AG<;>intro hc<;>try omega)|apply AP|apply AE|refine AD (hT _) ?_)<;>conv=>whnf))
  exact AW rfl (KT [])
 rw[<-v1];generalize dg (val l)=x at *;have Kv:n%32<32:=Nat.mod_lt _ (by omega);have e1:(- -(n:Int))/32=((n/32:Nat):Int):=by omega
 have e2:(- -(n:Int))%32=((n%32:Nat):Int):=by omega
 by_cases At3:32*x.length<n
 ·have j9:val x/2^n=0:=by
   refine Nat.div_eq_of_lt (Nat.lt_of_lt_of_le (F2 d1) ?_);rw[show 4294967296=2^32 from rfl,<-Nat.pow_mul];exact Nat.pow_le_pow_right (by omega) (by omega)
  rw[j9,FZ];(repeat' ((first|(apply AG<;>intro hc<;>try omega)|(apply FW;omega)|apply AP|apply AE|refine AD (hT _) ?_)<;>conv=>whnf))
  exact AW rfl (KT [])
 have hk:n/32<=x.length:=by omega
 have hvd:=AlA d1 _ hk;(repeat' ((first|(apply AG<;>intro hc<;>try omega)|(apply FW;omega)|(refine LI ?_ ?_ (λ_ => ?_) (λ_ _ => ?_);omega;omega;all_goals try omega)|(apply CN.neg;omega)|apply AP|apply AE|refine AD (hT _) ?_)<;>conv=>whnf))
 rw[e1];refine FU (λ i _=>x.length-i) (λ(i:Nat) (o:List Nat)=>n/32<=i/\i<=x.length/\o.length=i-n/32/\A1 o/\val o+4294967296^(i-n/32)*(val (x.drop i)/2^(n%32))=val (x.drop (n/32))/2^(n%32)) (λ i o=>[(6,.int .i64 i),(5,.row 107005 0 1 0 o.length)]) (λ i o=>[(107005,107005,.rw 1 (o.map AL))]) (n/32) [] ⟨Nat.le_refl _,hk,by simp,WA,by simp [val]⟩ ?_;intro i o ⟨p0,p1,p2,p3,p5⟩ ih;by_cases hi:i<x.length
 ·obtain ⟨d,hd⟩ : ∃ d,x[i]? = some d:=⟨_,zE hi⟩
  have y7:=d1.at hd;have g1:=II hd;have g2:=VO x (i+1);have g3:=AfN (e:=x.getD (i+1) 0) (V:=val (x.drop (i+1+1))) y7 Kv;rw[<-g2,<-g1]at g3;have key : ∀ t,t=d+x.getD (i+1) 0*4294967296->val (o++[t/2^(n%32)%4294967296])+4294967296^(i+1-n/32)*(val (x.drop (i+1))/2^(n%32))=val (x.drop (n/32))/2^(n%32):=λ t ht=>by
   rw[QE,p2,show i+1-n/32=(i-n/32)+1 by omega,Nat.pow_succ,ht,Nat.add_assoc,Nat.mul_assoc,<-Nat.mul_add,g3];exact p5
  by_cases hy:i+1<x.length
  ·obtain ⟨e,he⟩ : ∃ e,x[i+1]? = some e:=⟨_,zE hy⟩
   have Jt:=d1.at he;have fh:x[((i:Int)+1).toNat]? = some e:=by rw[show ((i:Int)+1).toNat=i+1 by omega];exact he
   rw[HV he]at key;(repeat' ((first|(apply AG<;>intro hc<;>try omega)|(apply AQ;omega)|(apply QO;omega)|(apply B3;omega)|apply AP|(refine A9 (by assumption) ?_ rfl ?_;omega)|apply AE)<;>conv=>whnf))
   refine aK 32 (Nat.mul_mod_left _ _) (by omega) (by omega) ?_;(conv=>whnf)
   (repeat' ((first|(refine QP ?_ (λ_ _ _ => ?_) (λ_ _ _ _ => ?_);omega;all_goals try omega)|(apply B3;omega))<;>conv=>whnf))
   rw[e2];refine RU (n:=n%32) (by show n%32<=64;omega) ?_;(conv=>whnf)
   (repeat' ((first|apply G3|apply DQ)<;>conv=>whnf))
   refine FA (enc:=AL) ((d+e*4294967296)/2^(n%32)%4294967296) rfl rfl rfl (by omega) (by omega) ?_;(conv=>whnf)
   (repeat' ((first|(apply AQ;omega)|fail)<;>conv=>whnf))
   exact BB [(107005,107064)] (ih (i+1) (o++[(d+e*4294967296)/2^(n%32)%4294967296]) (by omega) ⟨by omega,by omega,by simp;omega,p3.append (IO (by omega)),key (d+e*4294967296) rfl⟩)
  ·rw[<-TH (show x.length<=i+1 by omega),Nat.zero_mul]at key
   (repeat' ((first|(apply AG<;>intro hc<;>try omega)|(apply AQ;omega)|(refine QP ?_ (λ_ _ _ => ?_) (λ_ _ _ _ => ?_);omega;all_goals try omega)|(apply B3;omega)|apply AP|(refine A9 (by assumption) ?_ rfl ?_;omega)|apply AE)<;>conv=>whnf))
   rw[e2];refine RU (n:=n%32) (by show n%32<=64;omega) ?_;(conv=>whnf)
   (repeat' ((first|apply G3|apply DQ)<;>conv=>whnf))
   refine FA (enc:=AL) (d/2^(n%32)%4294967296) rfl rfl rfl (by omega) (by omega) ?_;(conv=>whnf)
   (repeat' ((first|(apply AQ;omega)|fail)<;>conv=>whnf))
   exact BB [(107005,107064)] (ih (i+1) (o++[d/2^(n%32)%4294967296]) (by omega) ⟨by omega,by omega,by simp;omega,p3.append (IO (by omega)),key d rfl⟩)
 ·obtain rfl:i=x.length:=by omega
  clear ih;rw[List.drop_of_length_le (Nat.le_refl _),J5,Nat.zero_div,Nat.mul_zero,Nat.add_zero,hvd,Nat.div_div_eq_div_mul,<-AjJ]at p5;have Fm:=λ q=>HC N o q p3 (by omega)
  rw[p5]at Fm;(repeat' ((first|(apply AG<;>intro hc<;>try omega)|apply AP|(refine CZ (λ_=>rfl) rfl ?_ ?_;(first|rfl|simp))|apply AE|refine AD (Fm _) ?_)<;>conv=>whnf))
  exact AW rfl (KT _)
end Go.c6
