/-
  Rational numbers as signs and lists of digits, plain.
-/
import Derived.Test.YtpafclijakpknaaGreatB7
import Derived.Test.YtpafclijakpknaaGreatB1
import Derived.Test.YtpafclijakpknaaGreatB2
set_option linter.unusedSimpArgs false
set_option linter.unusedVariables false
set_option linter.unnecessarySimpa false
namespace Go.c9
abbrev rQ (q1 q2 n:Bool) (m d:List Nat):List AV:=[.bool n,.sl q1 (m.map C3),.sl q2 (d.map C3)]
abbrev eQ (x:Rat):List AV:=rQ false false (decide (x.num<0)) (dg x.num.natAbs) (dg x.den)
def qv (n:Bool) (m d:List Nat):Rat:=mkRat (zv n m) (val d)
theorem MY (x:Rat):qv (decide (x.num<0)) (dg x.num.natAbs) (dg x.den)=x:=by
 unfold qv;rw[NI,GO,Rat.mkRat_self]
theorem AkZ {d:Nat} (z:Nat) (hd:d≠0):0<Nat.gcd d z:=Nat.gcd_pos_of_pos_left z (by omega)
theorem AfG {z:Int} {d:Nat} (hd:d≠0):(mkRat z d).num.natAbs=z.natAbs/Nat.gcd d z.natAbs/\(mkRat z d).den=d/Nat.gcd d z.natAbs/\decide ((mkRat z d).num<0)=decide (z<0):=by
 have hg:=AkZ z.natAbs hd;have h1:=Rat.num_mkRat z d;have h2:=Rat.den_mkRat z d;rw[if_neg hd]at h1 h2;rw[h1,h2];obtain ⟨k,hk⟩:=Nat.gcd_dvd_right d z.natAbs;generalize hG:Nat.gcd d z.natAbs=g at *;have hz:z=(g:Int)*(z.sign*k):=by
  rw[<-Int.mul_assoc,Int.mul_comm (g:Int),Int.mul_assoc,<-Int.natCast_mul,<-hk,Int.sign_mul_natAbs]
 have e1:z/(g:Int)=z.sign*k:=by
  rw[hz,Int.mul_ediv_cancel_left _ (by omega),<-hz]
 refine ⟨?_,rfl,?_⟩
 ·rw[e1,Int.natAbs_mul,hk,Nat.mul_div_cancel_left _ hg]
  by_cases h0:z=0
  ·subst h0
   have:k=0:=by
    have h5:g*k=0:=hk.symm;rcases Nat.mul_eq_zero.1 h5 with h|h
    ·omega
    ·exact h
   subst this;simp
  ·rw[Int.natAbs_sign_of_ne_zero h0,Nat.one_mul];simp
 ·congr 1
  rw[eq_iff_iff];rw[Int.ediv_lt_iff_lt_mul (by omega),Int.zero_mul]
theorem JB (x:Rat):EA (.agg (eQ x)):=by
 simp only[EA,GK,and_true,true_and];exact ⟨I7 _,I7 _⟩
theorem Tl (b w:Bool) (m d:List Nat):EA (.agg [.bool b,.sl false (m.map C3),.sl false (d.map C3),.bool w]):=by
 simp only[EA,GK,and_true,true_and];exact ⟨I7 _,I7 _⟩
theorem Aiv (b:Bool) (m:List Nat):EA (.agg [.bool b,.sl false (m.map C3)]):=by
 simp only[EA,GK,and_true,true_and];exact I7 _
theorem AbD (b:Bool) (m d:List Nat):EA (.agg [.bool b,.sl false (m.map C3),.sl false (d.map C3)]):=by
 simp only[EA,GK,and_true,true_and];exact ⟨I7 _,I7 _⟩
theorem Rm (q:Bool) (l:List Nat):zG (.sl q (l.map C3)):=by
 intro e he c hc;obtain ⟨x,_,rfl⟩:=List.mem_map.1 he;simp at hc;subst hc;rfl
theorem Ado {r:AV} {K:AV->Prop} (h:YD r) (hk:K (Ke r)):GT r K:=⟨Or.inl h,by rw[Afw h];exact hk⟩
theorem AhE {r:AV} {K:AV->Prop} (h : ¬ YD r) (hd:sW r) (hk:K (cL r)):GT r K:=⟨Or.inr hd,by rw[Afv h];exact hk⟩
theorem Q9 {b w q1 q2:Bool} {m d:List Nat} {K:AV->Prop} (hk:K (.agg [.bool b,.sl true (m.map C3),.sl true (d.map C3),.bool w])):GT (.agg [.bool b,.sl q1 (m.map C3),.sl q2 (d.map C3),.bool w]) K:=by
 refine Ado ?_ hk;intro c hc;simp only[List.mem_cons,List.not_mem_nil,or_false]at hc;rcases hc with rfl|rfl|rfl|rfl
 ·trivial
 ·exact Rm _ _
 ·exact Rm _ _
 ·trivial
theorem AhF {b q1 q2:Bool} {m d:List Nat} {K:AV->Prop} (hk:K (.agg [.bool b,.sl true (m.map C3),.sl true (d.map C3)])):GT (.agg [.bool b,.sl q1 (m.map C3),.sl q2 (d.map C3)]) K:=by
 refine Ado ?_ hk;intro c hc;simp only[List.mem_cons,List.not_mem_nil,or_false]at hc;rcases hc with rfl|rfl|rfl
 ·trivial
 ·exact Rm _ _
 ·exact Rm _ _
theorem tC {b q1:Bool} {m:List Nat} {K:AV->Prop} (hk:K (.agg [.bool b,.sl true (m.map C3)])):GT (.agg [.bool b,.sl q1 (m.map C3)]) K:=by
 refine Ado ?_ hk;intro c hc;simp only[List.mem_cons,List.not_mem_nil,or_false]at hc;rcases hc with rfl|rfl
 ·trivial
 ·exact Rm _ _
theorem Acf {a b:Int} {d e:Nat} (hd:d≠0) (he:e≠0):mkRat a d+mkRat b e=mkRat (a*e+b*d) (d*e):=Rat.mkRat_add_mkRat a b hd he
theorem Al7 {a b:Int} {d:Nat} (hd:d≠0):mkRat a d+mkRat b d=mkRat (a+b) d:=by
 rw[Acf hd hd,<-Int.add_mul,Rat.mkRat_mul_right hd]
theorem AfC (a b:Int) (d e:Nat):mkRat a d*mkRat b e=mkRat (a*b) (d*e):=Rat.mkRat_mul_mkRat a b d e
theorem Ama (a:Int):mkRat a 1=(a:Rat):=by
 have h:=Rat.mkRat_self (a:Rat);rw[Rat.num_intCast,Rat.den_intCast]at h;exact h
theorem AfF {z:Int} {d:Nat} (hd:d≠0):mkRat z d=0↔z=0:=Rat.mkRat_eq_zero hd
theorem AfH {z:Int} {d:Nat} (hd:d≠0):w3 (mkRat z d).num=w3 z:=by
 obtain ⟨_,_,h⟩:=AfG (z:=z) hd;have h0:(mkRat z d).num=0↔z=0:=by rw[Rat.num_eq_zero,AfF hd]
 have h1:(mkRat z d).num<0↔z<0:=by simpa using h
 unfold w3;by_cases a:z<0
 ·rw[if_pos a,if_pos (h1.2 a)]
 ·rw[if_neg a,if_neg (λ h=>a (h1.1 h))]
  by_cases b:z=0
  ·rw[if_neg (by omega),if_neg (by have:=h0.2 b;omega)]
  ·rw[if_pos (by omega),if_pos (by have:=mt h0.1 b;have:=mt h1.1 a;omega)]
theorem AvF {a b:Int} {d e:Nat} (hd:d≠0) (he:e≠0) (hb:b≠0):mkRat a d/mkRat b e=mkRat (b.sign*(a*e)) (d*b.natAbs):=by
 have hbn:b.natAbs≠0:=by omega
 have h1:mkRat b e≠0:=λ h=>hb ((AfF he).1 h)
 have key:mkRat (b.sign*(a*e)) (d*b.natAbs)*mkRat b e=mkRat a d:=by
  rw[AfC];have e1:b.sign*(a*e)*b=a*((b.natAbs*e:Nat):Int):=by
   have:=Int.sign_mul_self b
   rw[Int.natCast_mul,<-this];grind
  rw[e1,show d*b.natAbs*e=d*(b.natAbs*e) by rw[Nat.mul_assoc]];exact Rat.mkRat_mul_right (Nat.mul_ne_zero hbn he)
 rw[<-key,Rat.mul_div_cancel h1]
theorem AoI {x y:Int} (hy:y≠0):zv (decide (x<0) != decide (y<0)) (dg x.natAbs)=y.sign*x:=by
 unfold zv;rw[GO];rcases Int.lt_or_gt_of_ne hy with h|h
 ·rw[Int.sign_eq_neg_one_of_neg h]
  by_cases hx:x<0
  ·simp [hx,h];omega
  ·simp [hx,h];omega
 ·rw[Int.sign_eq_one_of_pos h]
  by_cases hx:x<0
  ·simp [hx,show ¬ y<0 by omega];omega
  ·simp [hx,show ¬ y<0 by omega];omega
def Bt (k:Nat) (x:Rat):Prop:=x.num.natAbs<=2^k/\x.den<=2^k
theorem Bt.le {k l:Nat} {x:Rat} (h:Bt k x) (hl:k<=l):Bt l x:=by
 have:=Nat.pow_le_pow_right (show 0<2 by omega) hl
 exact ⟨Nat.le_trans h.1 this,Nat.le_trans h.2 this⟩
theorem Bt.mk {k:Nat} {z:Int} {d:Nat} (hz:z.natAbs<=2^k) (hd:d<=2^k):Bt k (mkRat z d):=by
 by_cases h0:d=0
 ·subst h0
  rw[Rat.mkRat_zero];exact ⟨by simp,by simp;exact Nat.one_le_two_pow⟩
 ·obtain ⟨e1,e2,_⟩:=AfG (z:=z) h0
  unfold Bt;rw[e1,e2];exact ⟨Nat.le_trans (Nat.div_le_self _ _) hz,Nat.le_trans (Nat.div_le_self _ _) hd⟩
theorem Bt.add {k l:Nat} {x y:Rat} (hx:Bt k x) (hy:Bt l y):Bt (k+l+1) (x+y):=by
 rw[Rat.add_def'];refine Bt.mk ?_ ?_
 ·have h1:(x.num*y.den).natAbs<=2^k*2^l:=by rw[Int.natAbs_mul,Int.natAbs_natCast];exact Nat.mul_le_mul hx.1 hy.2
  have h2:(y.num*x.den).natAbs<=2^l*2^k:=by rw[Int.natAbs_mul,Int.natAbs_natCast];exact Nat.mul_le_mul hy.1 hx.2
  rw[Nat.mul_comm (2^l)]at h2;rw[Nat.pow_succ,Nat.pow_add];have h3:=Int.natAbs_add_le (x.num*y.den) (y.num*x.den);omega
 ·rw[Nat.pow_succ,Nat.pow_add]
  have:=Nat.mul_le_mul hx.2 hy.2
  omega
theorem Bt.mul {k l:Nat} {x y:Rat} (hx:Bt k x) (hy:Bt l y):Bt (k+l) (x*y):=by
 rw[Rat.mul_def'];refine Bt.mk ?_ ?_
 ·rw[Int.natAbs_mul,Nat.pow_add];exact Nat.mul_le_mul hx.1 hy.1
 ·rw[Nat.pow_add];exact Nat.mul_le_mul hx.2 hy.2
theorem Bt.zero (k:Nat):Bt k 0:=⟨by simp,by simp;exact Nat.one_le_two_pow⟩
theorem Bt.one (k:Nat):Bt k 1:=⟨by simp;exact Nat.one_le_two_pow,by simp;exact Nat.one_le_two_pow⟩
theorem Bt.dig {k n:Nat} {x:Rat} (h:Bt k x) (hn:k<32*n):Sm n (dg x.num.natAbs)/\Sm n (dg x.den):=by
 have e:2^k<4294967296^n:=by
  rw[show 4294967296=2^32 from rfl,<-Nat.pow_mul];exact (Nat.pow_lt_pow_iff_right (by omega)).2 hn
 exact ⟨Sm.dg (Nat.lt_of_le_of_lt h.1 e),Sm.dg (Nat.lt_of_le_of_lt h.2 e)⟩
def Bs (k:Nat) (l:List Rat):Prop := ∀ x∈l,Bt k x
theorem Bs.at {k:Nat} {l:List Rat} (h:Bs k l) {i:Nat} {x:Rat} (hx:l[i]? = some x):Bt k x:=h x (zM hx)
theorem Bs.le {k j:Nat} {l:List Rat} (h:Bs k l) (hj:k<=j):Bs j l:=λ x hx=>(h x hx).le hj
theorem Bs.take {k:Nat} {l:List Rat} (h:Bs k l) (n:Nat):Bs k (l.take n):=λ x hx=>h x (List.mem_of_mem_take hx)
def GG:List Rat->List Rat->Rat
 | x::xs,y::ys=>x*y+GG xs ys
 | _,_=>0
theorem Aje (l:List Rat):GG l []=0:=by cases l<;>rfl
theorem Ajg : ∀ {a b:List Rat} {x y:Rat},a.length=b.length->GG (a++[x]) (b++[y])=GG a b+x*y
 | [],[],x,y,_=>by show x*y+0=0+x*y;rw[Rat.add_zero,Rat.zero_add]
 | p::a,q::b,x,y,h=>by
  show p*q+GG (a++[x]) (b++[y])=p*q+GG a b+x*y;rw[Ajg (by simpa using h),Rat.add_assoc]
theorem Tx {a b:List Rat} {i:Nat} {x y:Rat} (hx:a[i]? = some x) (hy:b[i]? = some y):GG (a.take (i+1)) (b.take (i+1))=GG (a.take i) (b.take i)+x*y:=by
 have h1:=(zS hx).1;have h2:=(zS hy).1;rw[List.take_add_one,List.take_add_one,hx,hy,Option.toList_some,Option.toList_some,Ajg (by rw[List.length_take,List.length_take];omega)]
theorem AbR {a b:List Rat} {n:Nat} (h:a.length=n):GG (a.take n) (b.take n)=GG a b:=by
 subst h;rw[zT (Nat.le_refl _)];induction a generalizing b with
 | nil=>cases b<;>rfl
 | cons x a ih=>cases b with
  | nil=>rfl
  | cons y b=>simp only[List.length_cons,List.take_succ_cons,GG,ih]
theorem Bs.dot {k l:Nat} : ∀ {a b:List Rat},Bs k a->Bs l b->Bt (a.length*(k+l+1)) (GG a b)
 | [],b,_,_=>by cases b<;>exact Bt.zero _
 | x::a,[],_,_=>Bt.zero _
 | x::a,y::b,ha,hb=>by
  have h1:=(ha x (by simp)).mul (hb y (by simp));have h2:=Bs.dot (a:=a) (b:=b) (λ z hz=>ha z (by simp [hz])) (λ z hz=>hb z (by simp [hz]));refine (h1.add h2).le ?_;rw[List.length_cons,Nat.succ_mul];omega
structure NN where
 a:List (List Rat)
 b:List Rat
 c:List Rat
 d:Rat
structure NN.Ok (S:NN) (n k:Nat):Prop where
 la:S.a.length=n
 lr : ∀ r∈S.a,r.length=n
 lb:S.b.length=n
 lc:S.c.length=n
 ba : ∀ r∈S.a,Bs k r
 bb:Bs k S.b
 bc:Bs k S.c
 bd:Bt k S.d
def JF (n:Nat) (j:Int):List Rat:=(List.range n).map λ i:Nat=>if (i:Int)=j then 1 else 0
theorem Vp (n:Nat) (j:Int):(JF n j).length=n:=by simp [JF]
theorem AxS (n:Nat) (j:Int):JF (n+1) j=JF n j++[if (n:Int)=j then 1 else 0]:=by simp [JF,List.range_succ]
abbrev eO:Option Rat->List AV
 | none=>[.bool false,.nil,.nil]
 | some x=>eQ x
def KE (l:List Rat) (m:Nat):List (Option Rat):=l.map some++List.replicate (m-l.length) none
theorem xK (m:Nat):KE [] m=List.replicate m none:=by simp [KE]
theorem qC {l:List Rat} {m:Nat} (h:l.length<=m):(KE l m).length=m:=by simp [KE];omega
theorem uB {l:List Rat} {m:Nat} {x:Rat} (h:l.length<m):(KE l m).set l.length (some x)=KE (l++[x]) m:=by
 unfold KE;have e:m-l.length=(m-(l++[x]).length)+1:=by simp;omega
 rw[e,List.replicate_succ,List.set_append_right _ _ (by simp)];simp
theorem xJ {l:List Rat} {m:Nat} (h:l.length=m):(KE l m).map eO=l.map eQ:=by
 unfold KE;rw[h,Nat.sub_self];simp [Function.comp_def]
abbrev eS (S:NN):List AV:=[.sl false (S.a.map λ r=>[AV.sl false (r.map eQ)]),.sl false (S.b.map eQ),.sl false (S.c.map eQ)]++eQ S.d
theorem aJ (l:List Rat):L3 (l.map eQ):=rH (λ x=>by simp only[GK,EA,and_true,true_and];exact ⟨I7 _,I7 _⟩) l
theorem AxD {l:List Rat} {i:Nat} {x:Rat} (h:l[i]? = some x):l.take (i+1)=l.take i++[x]:=by
 rw[List.take_add_one,h];rfl
theorem Tn (S:NN):EA (.agg (eS S)):=by
 have h:L3 (S.a.map λ r=>[AV.sl false (r.map eQ)]):=rH (λ r=>by simp only[GK,EA,and_true,true_and];exact aJ r) S.a;simp only[EA,List.cons_append,List.nil_append,GK,and_true,true_and];exact ⟨h,aJ _,aJ _,I7 _,I7 _⟩
def LJ (vals:List Rat):List (Int × Int)->Rat
 | []=>0
 | t::ts=>(t.2:Rat)*vals.getD t.1.toNat 0+LJ vals ts
theorem An6 (vals:List Rat) (t:Int × Int) : ∀ ts,LJ vals (ts++[t])=LJ vals ts+(t.2:Rat)*vals.getD t.1.toNat 0
 | []=>by simp only[List.nil_append,LJ];grind
 | u::ts=>by simp only[List.cons_append,LJ];rw[An6 vals t ts];grind
theorem An7 {vals:List Rat} {ts:List (Int × Int)} {i:Nat} {t:Int × Int} (h:ts[i]? = some t):LJ vals (ts.take (i+1))=LJ vals (ts.take i)+(t.2:Rat)*vals.getD t.1.toNat 0:=by
 rw[List.take_add_one,h,Option.toList_some,An6]
def PA (u:Rat) (ex:Int):Nat->List Rat->List (List (Int × Int))->List Rat
 | _,vals,[]=>vals
 | k,vals,ts::r=>PA u ex (k+1) (vals++[LJ vals ts/u+(if (k:Int)=ex then 1 else 0)]) r
theorem Akw (u:Rat) (ex:Int) : ∀ (k:Nat) (vals:List Rat) (l:List (List (Int × Int))),(PA u ex k vals l).length=vals.length+l.length
 | _,_,[]=>rfl
 | k,vals,ts::r=>by rw[PA,Akw u ex (k+1)];simp;omega
theorem Bs.getD {k:Nat} {l:List Rat} (h:Bs k l) (i:Nat):Bt k (l.getD i 0):=by
 rw[List.getD_eq_getElem?_getD];cases e:l[i]? with
 | none=>exact Bt.zero k
 | some x=>exact h.at e
theorem Bs.sum {k j:Nat} {vals:List Rat} (hv:Bs k vals) : ∀ (ts:List (Int × Int)),(∀ t∈ts,Bt j ((t.2:Int):Rat))->Bt (ts.length*(j+k+1)) (LJ vals ts)
 | [],_=>Bt.zero _
 | t::ts,h=>by
  have h1:=(h t (by simp)).mul (hv.getD t.1.toNat);have h2:=Bs.sum hv ts (λ u hu=>h u (by simp [hu]));refine (h1.add h2).le ?_;rw[List.length_cons,Nat.succ_mul];omega
theorem Aug {l:List Rat} {x:Rat} {m:Nat} (h:m<l.length):(l++[x]).getD m 0=l.getD m 0:=by
 rw[List.getD_eq_getElem?_getD,List.getD_eq_getElem?_getD,List.getElem?_append_left h]
theorem Auf {l:List Rat} {x:Rat} {m:Nat} (h:m=l.length):(l++[x]).getD m 0=x:=by
 subst h;rw[List.getD_eq_getElem?_getD,List.getElem?_append_right (Nat.le_refl _)];simp
def gS:Nat->Nat
 | 0=>0
 | i+1=>5*gS i+150
theorem Aua (i:Nat):gS i<=gS (i+1):=by rw[gS];omega
theorem Bt.ofInt {k:Nat} {z:Int} (h:z.natAbs<=2^k):Bt k ((z:Int):Rat):=⟨by rw[Rat.num_intCast];exact h,by rw[Rat.den_intCast];exact Nat.one_le_two_pow⟩
theorem Bt.Hn {k j:Nat} {x:Rat} {z:Int} (h:Bt k x) (hz:1<=z) (hj:z.natAbs<=2^j):Bt (k+j) (x/(z:Rat)):=by
 obtain ⟨d,rfl⟩:=Int.eq_ofNat_of_zero_le (show 0<=z by omega);have e:x/((d:Int):Rat)=x*mkRat 1 d:=by
  rw[Rat.div_def,Rat.mkRat_eq_div,Rat.div_def];congr 1;rw[show ((1:Int):Rat)=1 from rfl,Rat.one_mul];rfl
 rw[e];exact h.mul (Bt.mk (by simp;exact Nat.one_le_two_pow) (by simpa using hj))
structure pM (l:List (List (Int × Int))):Prop where
 len : ∀ ts∈l,ts.length<=5
 cf : ∀ ts∈l,∀ t∈ts,t.2.natAbs<=2^24
theorem AvU {ts:List (Int × Int)} {vals:List Rat} {k:Nat} {z:Int} (h1:ts.length<=5) (h2 : ∀ t∈ts,t.2.natAbs<=2^24) (hv:Bs k vals) (hz:1<=z) (Cm:z.natAbs<=2^24) (b:Bool):Bt (5*k+150) (LJ vals ts/(z:Rat)+(if b=true then 1 else 0)):=by
 have a1:=hv.sum ts (j:=24) (λ t ht=>Bt.ofInt (h2 t ht));have a2:Bt (5*(24+k+1)) (LJ vals ts):=a1.le (zR _ h1);have a3:=a2.Hn hz Cm;have a4:Bt 0 (if b=true then (1:Rat) else 0):=by cases b<;>first|exact Bt.zero 0|exact Bt.one 0
 exact (a3.add a4).le (by omega)
theorem Akv {z ex:Int} (hz:1<=z) (Cm:z.natAbs<=2^24) : ∀ (l:List (List (Int × Int))) (k:Nat) (vals:List Rat),pM l->Bs (gS k) vals->Bs (gS (k+l.length)) (PA (z:Rat) ex k vals l)
 | [],k,vals,_,hv=>hv
 | ts::l,k,vals,h,hv=>by
  have h1:=AvU (h.len ts (by simp)) (h.cf ts (by simp)) hv hz Cm (decide ((k:Int)=ex));simp only[decide_eq_true_eq]at h1;rw[PA,List.length_cons,show k+(l.length+1)=k+1+l.length by omega];refine Akv hz Cm l (k+1) _ ⟨λ t ht=>h.len t (by simp [ht]),λ t ht=>h.cf t (by simp [ht])⟩ ?_;intro x hx;rcases List.mem_append.1 hx with hx|hx
  ·exact (hv x hx).le (Aua k)
  ·simp only[List.mem_singleton]at hx
   rw[hx];exact h1
theorem At3 (u:Rat) (ex:Int) (vals:List Rat) (l:List (List (Int × Int))) (i:Nat) (ts:List (Int × Int)) (h:l[i]? = some ts):PA u ex 0 vals (l.take (i+1))=PA u ex 0 vals (l.take i)++[LJ (PA u ex 0 vals (l.take i)) ts/u+(if (i:Int)=ex then 1 else 0)]:=by
 have key : ∀ (l:List (List (Int × Int))) (k:Nat) (vals:List Rat) (ts:List (Int × Int)),PA u ex k vals (l++[ts])=PA u ex k vals l++[LJ (PA u ex k vals l) ts/u+(if ((k+l.length:Nat):Int)=ex then 1 else 0)]:=by
  intro l;induction l with
  | nil=>intro k vals ts;simp [PA]
  | cons a l ih =>
   intro k vals ts;rw[List.cons_append,PA,ih,PA,List.length_cons,show k+1+l.length=k+(l.length+1) by omega]
 have hi:=(zS h).1;rw[List.take_add_one,h,Option.toList_some,key,List.length_take,Nat.min_eq_left (by omega),Nat.zero_add]
def JX (m:List (List Rat)) (j:Nat):List Rat:=m.map λ r=>r.getD j 0
def NU (r:List Rat) (m:List (List Rat)) (n:Nat):List Rat:=(List.range n).map λ j=>GG r (JX m j)
def QD (a m:List (List Rat)) (n:Nat):List (List Rat):=a.map λ r=>NU r m n
def NV (m:List (List Rat)) (b:List Rat):List Rat:=m.map λ r=>GG r b
theorem Are (m:List (List Rat)) (j:Nat):(JX m j).length=m.length:=by simp [JX]
theorem AvO (r:List Rat) (m:List (List Rat)) (n:Nat):(NU r m n).length=n:=by simp [NU]
theorem AvM (a m:List (List Rat)) (n:Nat):(QD a m n).length=a.length:=by simp [QD]
theorem AfJ (m:List (List Rat)) (b:List Rat):(NV m b).length=m.length:=by simp [NV]
structure Sq (n:Nat) (m:List (List Rat)):Prop where
 l:m.length=n
 r : ∀ r∈m,r.length=n
theorem Sq.at {n:Nat} {m:List (List Rat)} (h:Sq n m) {i:Nat} {r:List Rat} (hr:m[i]? = some r):r.length=n:=h.r r (zM hr)
theorem Sq.mul {n:Nat} {a:List (List Rat)} (h:a.length=n) (m:List (List Rat)):Sq n (QD a m n):=by
 refine ⟨by rw[AvM,h],λ r hr => ?_⟩;obtain ⟨x,_,rfl⟩:=List.mem_map.1 hr;exact AvO _ _ _
def Ms (k:Nat) (m:List (List Rat)):Prop := ∀ r∈m,Bs k r
theorem Ms.at {k:Nat} {m:List (List Rat)} (h:Ms k m) {i:Nat} {r:List Rat} (hr:m[i]? = some r):Bs k r:=h r (zM hr)
theorem Ms.col {k:Nat} {m:List (List Rat)} (h:Ms k m) (j:Nat):Bs k (JX m j):=by
 intro x hx;obtain ⟨r,hr,rfl⟩:=List.mem_map.1 hx;rw[List.getD_eq_getElem?_getD];cases e:r[j]? with
 | none=>exact Bt.zero k
 | some x=>exact (h r hr).at e
theorem Aex : ∀ a b:List Rat,GG a b=GG b a
 | [],[]=>rfl
 | [],_::_=>rfl
 | _::_,[]=>rfl
 | x::a,y::b=>by simp only[GG,Aex a b,Rat.mul_comm]
def wQ (S:NN):Nat->List Rat
 | 0=>S.b
 | j+1=>NV S.a (wQ S j)
def conv (A h:Nat->Rat) (K:Nat):Nat->Rat
 | 0=>0
 | a+1=>conv A h K a+A a*h (K-a)
def PP (f:Nat->Rat):Nat->Rat
 | 0=>0
 | n+1=>PP f n+f n
theorem Aey (x:Rat) : ∀ a b:List Rat,GG (a.map (· * x)) b=GG a b*x
 | [],b=>by simp [GG]
 | a::l,[]=>by rw[Aje,Aje,Rat.zero_mul]
 | a::l,b::k=>by
  simp only[List.map_cons,GG,Aey x l k];grind
end Go.c9
namespace Go.c9
theorem Bt.AE3 {k:Nat} {y:Rat} (h:Bt k y):Bt k y⁻¹:=by
 rw[Rat.inv_def];rcases Int.natAbs_eq y.num with e|e
 ·rw[e,Rat.divInt_ofNat]
  exact Bt.mk (by simpa using h.2) h.1
 ·rw[e,Rat.divInt_neg',Rat.divInt_ofNat]
  exact Bt.mk (by simpa using h.2) h.1
theorem Bt.zj {k l:Nat} {x y:Rat} (hx:Bt k x) (hy:Bt l y):Bt (k+l) (x/y):=by
 rw[Rat.div_def];exact hx.mul hy.AE3
theorem Bt.Oy {k:Nat} {x:Rat} (h:Bt k x):Bt k (-x):=⟨by rw[Rat.neg_num,Int.natAbs_neg];exact h.1,by rw[Rat.neg_den];exact h.2⟩
theorem Bt.Zz {k l:Nat} {x y:Rat} (hx:Bt k x) (hy:Bt l y):Bt (k+l+1) (x-y):=by
 rw[Rat.sub_eq_add_neg];exact hx.add hy.Oy
def Zw (s x:Rat):Rat:=s*(((s*x).den:Nat):Rat)
def PO (r:List Rat):Rat:=r.foldl Zw 1
theorem AwW (r:List Rat) (x:Rat):PO (r++[x])=Zw (PO r) x:=by rw[PO,List.foldl_append];rfl
theorem AvP {a b c:Rat} (h:c≠0) (e:a*c=b*c):a=b:=by
 have h1:=Rat.mul_inv_cancel c h;have:a*c*c⁻¹=b*c*c⁻¹:=by rw[e]
 rwa [Rat.mul_assoc,Rat.mul_assoc,h1,Rat.mul_one,Rat.mul_one]at this
section
variable {m0 m:List (List Rat)} {K W AVf c:Nat} {P:List Nat} {odd:Bool} {l:Rat}
end
end Go.c9

namespace Go.c9
structure Pt where
 x:Rat
 y:Rat
 w:Rat
def Axy (g:List Pt) (f:Pt->Rat):Rat:=g.foldl (λ s p=>s+f p) 0
def rhs (g:List Pt) (k:Nat):Rat:=Axy g λ p=>p.w*p.x^k*p.y
def Wh (k:Nat) (x:Rat):Prop := ∃ z:Int,x=(z:Rat)/\z.natAbs<=2^k
theorem Wh.le {k l:Nat} {x:Rat} (h:Wh k x) (hl:k<=l):Wh l x:=by
 obtain ⟨z,e,b⟩:=h;exact ⟨z,e,Nat.le_trans b (Nat.pow_le_pow_right (by omega) hl)⟩
theorem Wh.mul {k l:Nat} {x y:Rat} (hx:Wh k x) (hy:Wh l y):Wh (k+l) (x*y):=by
 obtain ⟨z,rfl,b⟩:=hx;obtain ⟨u,rfl,c⟩:=hy;exact ⟨z*u,by rw[Rat.intCast_mul],by rw[Int.natAbs_mul,Nat.pow_add];exact Nat.mul_le_mul b c⟩
theorem Wh.add {k:Nat} {x y:Rat} (hx:Wh k x) (hy:Wh k y):Wh (k+1) (x+y):=by
 obtain ⟨z,rfl,b⟩:=hx;obtain ⟨u,rfl,c⟩:=hy;refine ⟨z+u,by rw[Rat.intCast_add],?_⟩;rw[Nat.pow_succ];have:=Int.natAbs_add_le z u
 omega
theorem Wh.zero (k:Nat):Wh k 0:=⟨0,rfl,Nat.zero_le _⟩
theorem Wh.bt {k:Nat} {x:Rat} (h:Wh k x):Bt k x:=by
 obtain ⟨z,rfl,b⟩:=h;exact Bt.ofInt b
theorem Wh.dot {k l:Nat} : ∀ {a b:List Rat},(∀ x∈a,Wh k x)->(∀ x∈b,Wh l x)->Wh (k+l+a.length) (GG a b)
 | [],b,_,_=>by cases b<;>exact Wh.zero _
 | x::a,[],_,_=>Wh.zero _
 | x::a,y::b,ha,hb=>by
  rw[GG,List.length_cons,<-Nat.add_assoc];exact (((ha x List.mem_cons_self).mul (hb y List.mem_cons_self)).le (by omega)).add (Wh.dot (λ z hz=>ha z (List.mem_cons_of_mem _ hz)) λ z hz=>hb z (List.mem_cons_of_mem _ hz))
theorem uL (y:Rat):y*(y.den:Rat)=(y.num:Rat):=by
 have h:=Rat.num_divInt_den y;rw[Rat.divInt_eq_div]at h;have h0:((y.den:Int):Rat)≠0:=λ e=>by
  have:((y.den:Int):Rat)=((0:Int):Rat):=e
  have:=Rat.intCast_inj.1 this
  have:=y.den_pos
  omega
 have h2:=Rat.div_mul_cancel h0 (a:=(y.num:Rat));rw[h,Rat.intCast_natCast]at h2;exact h2
theorem Aeg {y:Rat} {T:Nat} {z:Int} (h:(T:Rat)*y=(z:Rat)):y.den ∣ T:=by
 have h1:y*(y.den:Rat)=(y.num:Rat):=uL y;have h2:(((T:Int)*y.num:Int):Rat)=((z*(y.den:Int):Int):Rat):=by
  rw[Rat.intCast_mul,Rat.intCast_mul,<-h1,<-h,Rat.intCast_natCast,Rat.intCast_natCast,Rat.mul_assoc]
 have h3:=Rat.intCast_inj.1 h2;have h4:(y.den:Int) ∣ (T:Int)*y.num:=⟨z,by rw[h3,Int.mul_comm]⟩;have h5:y.den ∣ T*y.num.natAbs:=by
  have:=Int.natAbs_dvd_natAbs.2 h4
  simpa [Int.natAbs_mul] using this
 exact Nat.Coprime.dvd_of_dvd_mul_right (Nat.Coprime.symm y.reduced) h5
def NP (u:Rat) (ex:Int):Nat->List Rat->List (List (Int × Int))->List Rat
 | _,vals,[]=>vals
 | k,vals,ts::r=>NP u ex (k+1) (vals++[if (k:Int)=ex then 1 else LJ vals ts*u]) r
theorem Afb (u:Rat) (ex:Int) : ∀ (k:Nat) (vals:List Rat) (l:List (List (Int × Int))),(NP u ex k vals l).length=vals.length+l.length
 | _,vals,[]=>by simp [NP]
 | k,vals,ts::r=>by rw[NP,Afb u ex (k+1)];simp;omega
theorem Auh (u:Rat) (ex:Int) (vals:List Rat) (l:List (List (Int × Int))) (i:Nat) (ts:List (Int × Int)) (h:l[i]? = some ts):NP u ex 0 vals (l.take (i+1))=NP u ex 0 vals (l.take i)++[if (i:Int)=ex then 1 else LJ (NP u ex 0 vals (l.take i)) ts*u]:=by
 have key : ∀ (l:List (List (Int × Int))) (k:Nat) (vals:List Rat) (ts:List (Int × Int)),NP u ex k vals (l++[ts])=NP u ex k vals l++[if ((k+l.length:Nat):Int)=ex then 1 else LJ (NP u ex k vals l) ts*u]:=by
  intro l;induction l with
  | nil=>intro k vals ts;simp [NP]
  | cons a l ih =>
   intro k vals ts;rw[List.cons_append,NP,ih,NP,List.length_cons,show k+1+l.length=k+(l.length+1) by omega]
 have hi:=(zS h).1;rw[List.take_add_one,h,Option.toList_some,key,List.length_take,Nat.min_eq_left (by omega),Nat.zero_add]
def qD (m:Nat):Nat->Nat
 | 0=>0
 | i+1=>m*(qD m i+25)+qD m i+24
theorem Afa {u:Rat} {ex:Int} {m:Nat} (hu:Bt 24 u) : ∀ (l:List (List (Int × Int))) (k:Nat) (vals:List Rat),(∀ ts∈l,ts.length<=m)->(∀ ts∈l,∀ t∈ts,t.2.natAbs<=2^24)->Bs (qD m k) vals->Bs (qD m (k+l.length)) (NP u ex k vals l)
 | [],k,vals,_,_,hv=>hv
 | ts::l,k,vals,h1,h2,hv=>by
  rw[NP,List.length_cons,show k+(l.length+1)=k+1+l.length by omega];refine Afa hu l (k+1) _ (λ t ht=>h1 t (by simp [ht])) (λ t ht=>h2 t (by simp [ht])) ?_;intro x hx;rcases List.mem_append.1 hx with hx|hx
  ·exact (hv x hx).le (by rw[qD];omega)
  ·simp only[List.mem_singleton]at hx
   subst hx;split
   ·exact Bt.one _
   ·have a1:=hv.sum ts (j:=24) (λ t ht=>Bt.ofInt (h2 ts (by simp) t ht))
    have a2:=zR (24+qD m k+1) (h1 ts (by simp));refine ((a1.le a2).mul hu).le ?_;rw[qD,show 24+qD m k+1=qD m k+25 by omega];omega
theorem Ahx {L:Lib} {kk:List It} {tm:Tm} {M:Mem} {Q Q':Tm->Mem->Prop} (h:A0 L kk tm M Q) (hq : ∀ tm M,Q tm M->Q' tm M):A0 L kk tm M Q':=λ σ st hr=>by
 obtain ⟨n,c,s,h1,σ',gi,M',h2,h3⟩:=h σ st hr;exact ⟨n,c,s,h1,σ',gi,M',h2,hq _ _ h3⟩
end Go.c9

namespace Go.c9
open F
attribute [local irreducible] A0 B0 D8 BK IH DY FC E1 HI F9 IA LT GS EF HH H4 BD EU B9 pw IO H0 JM KX J9 GV IJ GT JW
variable {L:Lib}
set_option maxHeartbeats 1000000
def JQ (a b:Int):Int:=if a<b then -1 else if b<a then 1 else 0
theorem YM {a b:Int} (h:a<b) : -1=JQ a b:=by unfold JQ;rw[if_pos h]
theorem nT {a b:Int} (h:b<a):1=JQ a b:=by unfold JQ;rw[if_neg (by omega),if_pos h]
theorem tO {a b:Int} (h:a=b):0=JQ a b:=by unfold JQ;rw[if_neg (by omega),if_neg (by omega)]
theorem Atc (N:e9 L) (a:Int):Ev L 58 [.int .i64 a] (.bool false):=by
 refine Ev.x N.dH rfl rfl ?_;(repeat' ((first|(apply B6<;>intro hc<;>try omega)|apply BL)<;>conv=>whnf))
 exact M9 rfl
theorem Atd (N:e9 L) (a:Int):Ev L 59 [.int .u32 a] (.bool false):=by
 refine Ev.x N.dI rfl rfl ?_;(repeat' ((first|(apply B6<;>intro hc<;>try omega)|apply BL)<;>conv=>whnf))
 exact M9 rfl
theorem AsQ (N:e9 L) (a b:Int):Ev L 60 [.int .i64 a,.int .i64 b] (.int .i64 (JQ a b)):=by
 refine Ev.x N.dF rfl rfl ?_;(repeat' ((first|(apply B6<;>intro hc<;>try omega)|apply BL|refine BF (Atc N _) ?_)<;>conv=>whnf))
 ·exact IC (YM (by omega))
 ·exact IC (nT (by omega))
 ·exact IC (tO (by omega))
theorem AsR (N:e9 L) (a b:Int):Ev L 61 [.int .u32 a,.int .u32 b] (.int .i64 (JQ a b)):=by
 refine Ev.x N.dG rfl rfl ?_;(repeat' ((first|(apply B6<;>intro hc<;>try omega)|apply BL|refine BF (Atd N _) ?_)<;>conv=>whnf))
 ·exact IC (YM (by omega))
 ·exact IC (nT (by omega))
 ·exact IC (tO (by omega))
theorem Ajv (N:e9 L) (l:List Nat) (q:Bool) (hl:l.length<=1099511627776):Ev L 62 [.sl q (l.map C3)] (.sl false (l.map C3)):=by
 cases l with
 | nil =>
  refine O9.nil N.XD (O9.x N.XD rfl rfl ?_) (O9.x N.XD rfl rfl ?_)
  ·(repeat' (apply BL<;>conv=>whnf))
   exact DH rfl (by simp [EA,L3])
  ·(repeat' (apply BL<;>conv=>whnf))
   refine Adf (enc:=C3) (l:=[]) (l':=[]) rfl (λ_=>rfl) (by simp) (by simp) ?_;(conv=>whnf)
   (repeat' ((refine J2 (λ_=>rfl) rfl ?_ ?_;(first|rfl|simp))<;>conv=>whnf))
   exact DH rfl (by simp [EA,L3])
 | cons d l =>
  refine O9.cons (O9.x N.XD rfl rfl ?_);(repeat' (apply BL<;>conv=>whnf))
  refine EL (by simp) ?_;(conv=>whnf)
  skip
  refine Adf (enc:=C3) (l:=[]) (l':=d::l) rfl (λ_=>rfl) (by simp at hl ⊢;omega) (by simp at hl ⊢;omega) ?_;(conv=>whnf)
  (repeat' ((refine J2 (λ_=>rfl) rfl ?_ ?_;(first|rfl|simp))<;>conv=>whnf))
  exact DH rfl (by simp only[EA,true_and];exact I7 (d::l))
theorem cX (N:e9 L) (l:List Nat) (q:Bool) (hD:EK l) (hl:l.length<=1099511627776):zL L 65 [.sl q (l.map C3)] (.sl q ((dg (val l)).map C3)):=by
 refine ApS N.OZ rfl rfl rfl rfl rfl ?_;(repeat' ((first|apply C9|apply BL)<;>conv=>whnf))
 refine K7 (λ n=>n) (λ(n:Nat)=>n<=l.length /\ ∀ i,n<=i->i<l.length->l[i]? = some 0) (λ n=>[(3,.int .i64 n)]) (λ_=>[]) l.length ⟨Nat.le_refl _,λ i h1 h2=>by omega⟩ ?_;intro n ⟨p1,p2⟩ ih;rcases n with _|n
 ·(repeat' ((first|(apply B6<;>intro hc<;>try omega)|apply BL)<;>conv=>whnf))
  refine dD (k:=0) (λ_=>rfl) (by omega) ?_;(conv=>whnf)
  refine ⟨_,rfl,?_⟩;rw[PZ hD p1 p2 (Or.inl rfl)];rfl
 ·have e1:((n+1:Nat):Int)-1=n:=by omega
  (repeat' ((first|(apply B6<;>intro hc<;>try omega)|(apply F8;omega)|(refine rB (by assumption) ?_ (λ e he hb => ?_);omega)|apply BL)<;>conv=>whnf))
  ·rw[e1]
   exact FV [] (ih n (by omega) ⟨by omega,λ i h1 h2=>by
    by_cases h:i=n
    ·subst h
     rw[e1,Int.toNat_natCast]at he;rw[he];congr 1;omega
    ·exact p2 i (by omega) h2⟩)
  ·refine dD (k:=n+1) (λ_=>rfl) (by omega) ?_
   (conv=>whnf)
   refine ⟨_,rfl,?_⟩;rw[e1,Int.toNat_natCast]at he;rw[PZ hD p1 p2 (Or.inr ⟨e,he,by omega⟩)];rfl
theorem Ul (N:e9 L) (l:List Nat) (q:Bool) (hD:EK l) (hl:l.length<=1099511627776):Ev L 66 [.sl q (l.map C3)] (.sl false ((dg (val l)).map C3)):=by
 have hc:=MT hD;refine Ev.x N.fW rfl rfl ?_;(repeat' ((first|apply BL|refine bV (cX N l _ hD hl) ?_|refine BF (Ajv N (dg (val l)) _ (by omega)) ?_)<;>conv=>whnf))
 exact DH rfl (by simp only[EA,true_and];exact I7 _)
theorem Ara {a b:Nat} (h:((dg a).length:Int)≠(dg b).length):JQ (dg a).length (dg b).length=JQ a b:=by
 rcases Nat.lt_trichotomy (dg a).length (dg b).length with h1|h1|h1
 ·have:=zA h1
  rw[<-YM (by omega),<-YM (by omega)]
 ·omega
 ·have:=zA h1
  rw[<-nT (by omega),<-nT (by omega)]
theorem pZ (N:e9 L) (a b:List Nat) (q1 q2:Bool) (hA:EK a) (hB:EK b) (la:a.length<=1099511627776) (lb:b.length<=1099511627776):Ev L 67 [.sl q1 (a.map C3),.sl q2 (b.map C3)] (.int .i64 (JQ (val a) (val b))):=by
 have l1:=MT hA;have l2:=MT hB;have d1:=K0 (val a);have d2:=K0 (val b);refine Ev.x N.fP rfl rfl ?_;(repeat' ((first|(apply B6<;>intro hc<;>try omega)|(apply F8;omega)|apply C9|apply BL|refine bV (cX N a _ hA la) ?_|refine bV (cX N b _ hB lb) ?_|refine BF (AsQ N _ _) ?_)<;>conv=>whnf))
 ·exact IC (Ara (by omega))
 have hlen:(dg (val a)).length=(dg (val b)).length:=by omega
 have v1:=GO (val a);have v2:=GO (val b);generalize dg (val a)=X at *;generalize dg (val b)=Y at *;refine K7 (λ n=>n) (λ(n:Nat)=>n<=X.length/\X.drop n=Y.drop n) (λ n=>[(7,.int .i64 ((n:Int)-1))]) (λ_=>[]) X.length ⟨Nat.le_refl _,by rw[List.drop_of_length_le (Nat.le_refl _),List.drop_of_length_le (by omega)]⟩ ?_;intro n ⟨p1,p2⟩ ih;rcases n with _|n
 ·(repeat' ((first|(apply B6<;>intro hc<;>try omega)|apply BL)<;>conv=>whnf))
  rw[List.drop_zero,List.drop_zero]at p2;exact IC (tO (by rw[<-v1,<-v2,p2]))
 ·have e1:((n+1:Nat):Int)-1=n:=by omega
  rw[e1];(repeat' ((first|(apply B6<;>intro hc<;>try omega)|(apply F8;omega)|(refine E4 (by assumption) ?_ rfl ?_;omega)|(refine Abq (by assumption) ?_ (λ e he hb => ?_);omega)|apply BL|refine BF (AsR N _ _) ?_)<;>conv=>whnf))
  ·rename_i x hx _
   rcases Nat.lt_trichotomy x e with h|h|h
   ·have:=Ac5 d1 d2 hlen hx he p2 h
    refine IC ?_;rw[<-YM (by omega),<-YM (by omega)]
   ·omega
   ·have:=Ac5 d2 d1 hlen.symm he hx p2.symm h
    refine IC ?_;rw[<-nT (by omega),<-nT (by omega)]
  ·rename_i x hx _
   refine GF [] (by (conv=>whnf);exact ⟨rfl,rfl,rfl⟩) (ih n (by omega) ⟨by omega,?_⟩);obtain ⟨i1,e1⟩:=zS hx;obtain ⟨i2,e2⟩:=zS he;rw[List.drop_eq_getElem_cons i1,List.drop_eq_getElem_cons i2,p2,e1,e2];congr 1;omega
theorem Ac7 {y:List Nat} {i:Nat} (h:y.length<=i):val (y.take (i+1))=val (y.take i):=by
 rw[JT h,JT (by omega)]
theorem Atj (N:e9 L) (a b:List Nat) (q1 q2:Bool) (hA:EK a) (hB:EK b) (la:a.length<=1099511627775) (lb:b.length<=1099511627775):Ev L 68 [.sl q1 (a.map C3),.sl q2 (b.map C3)] (.sl false ((dg (val a+val b)).map C3)):=by
 have l1:=MT hA;have l2:=MT hB;have d1:=K0 (val a);have d2:=K0 (val b);have v1:=GO (val a);have v2:=GO (val b);refine Ev.x N.fO rfl rfl ?_;(repeat' ((first|(apply B6<;>intro hc<;>try omega)|(apply DD;omega)|apply C9|apply BL|refine bV (cX N a _ hA (by omega)) ?_|refine bV (cX N b _ hB (by omega)) ?_)<;>conv=>whnf))
 ·generalize dg (val a)=y at *
  generalize dg (val b)=x at *;rw[<-v1,<-v2,Nat.add_comm (val y)];have hlen:y.length<=x.length:=by omega
  have hxl:x.length<=1099511627775:=by omega
  clear v1 v2 hA hB la lb;refine K9 (enc:=C3) 0 (x.length+1) rfl (by omega) (by omega) ?_;(conv=>whnf)
  (repeat' (apply C9<;>conv=>whnf))
  refine P6 (λ i _ _=>x.length-i) (λ(i:Nat) (o:List Nat) (c:Nat)=>i<=x.length/\o.length=x.length+1/\EK o/\c<=1/\val (o.take i)+4294967296^i*c=val (x.take i)+val (y.take i)) (λ i o c=>[(8,.int .u64 (c:Int)),(29,.int .i64 i)]) (λ i o c=>[(26,26,.rw 1 (o.map C3))]) 0 (List.replicate (x.length+1) 0) 0 ⟨by omega,by simp,Z9 _,by omega,by simp [val]⟩ ?_;intro i o c ⟨p1,p2,p3,p4,p5⟩ ih;by_cases hi:i<x.length
  ·(repeat' ((first|(apply B6<;>intro hc<;>try omega)|(apply EL;omega)|(apply PR;omega)|(apply HN;omega)|apply O7|apply C9|(refine Abq (by assumption) ?_ (λ e he hb => ?_);omega)|apply BL)<;>conv=>whnf))
   ·rename_i d hd _
    refine NT (by omega) ?_;(conv=>whnf)
    (repeat' ((first|(apply DD;omega)|apply N6)<;>conv=>whnf))
    refine GF [] (by (conv=>whnf);exact ⟨rfl,rfl,rfl⟩) (ih (i+1) _ _ (by omega) ⟨by omega,by simpa using p2,p3.set _ (by omega),by omega,?_⟩);have h1:=LR hd;have h2:=LR he;have h3:=pQ (val (o.take i)) (4294967296^i) (d+c+e);have h4:=PQ (v:=(d+c+e)%4294967296) (show i<o.length by omega);rw[h4,h1,h2,Nat.pow_succ];generalize 4294967296^i=p at *;rw[h3,Nat.mul_add,Nat.mul_add];omega
   ·refine NT (by omega) ?_
    (conv=>whnf)
    (repeat' ((first|(apply DD;omega)|apply N6)<;>conv=>whnf))
    refine GF [] (by (conv=>whnf);exact ⟨rfl,rfl,rfl⟩) (ih (i+1) _ _ (by omega) ⟨by omega,by simpa using p2,p3.set _ (by omega),by omega,?_⟩);have h1:=LR he;have h2:=Ac7 (y:=y) (i:=i) (by omega);have h3:=pQ (val (o.take i)) (4294967296^i) (e+c);have h4:=PQ (v:=(e+c)%4294967296) (show i<o.length by omega);rw[h4,h1,h2,Nat.pow_succ];generalize 4294967296^i=p at *;rw[h3,Nat.mul_add];omega
  ·obtain rfl:i=x.length:=by omega
   clear ih;(repeat' ((first|(apply B6<;>intro hc<;>try omega)|(apply EL;omega)|(apply L5;omega)|apply C9|apply BL)<;>conv=>whnf))
   refine NT (by omega) ?_;(conv=>whnf)
   skip
   have hV:val (o.set x.length c)=val x+val y:=by
    have h4:=PQ (v:=c) (show x.length<o.length by omega);rw[zT (by simp;omega)]at h4;rw[h4,p5,JT (Nat.le_refl _),JT hlen]
   have hD:EK (o.set x.length c):=p3.set _ (by omega);have hL:(o.set x.length c).length=x.length+1:=by simpa using p2
   clear p3 p4 p5 p2;generalize o.set x.length c=O at *;rw[<-hL];refine P8 1000 N.OZ rfl rfl ?_;(repeat' (apply BL<;>conv=>whnf))
   refine K4 (λ n=>n) (λ(n:Nat)=>n<=(O).length /\ ∀ i,n<=i->i<(O).length->(O)[i]? = some 0) (λ n=>[(3,.int .i64 n)]) (λ_=>[]) [] [] (O).length (by first|exact (by (conv=>whnf);exact ⟨rfl,rfl,rfl⟩)|(simp only[List.length_set,List.length_replicate];exact (by (conv=>whnf);exact ⟨rfl,rfl,rfl⟩))) ⟨Nat.le_refl _,λ i h1 h2=>by omega⟩ ?_;intro n ⟨p1,p2⟩ ih;rcases n with _|n
   ·(repeat' ((first|(apply B6<;>intro hc<;>try omega)|apply BL)<;>conv=>whnf))
    refine QX 0 (by omega) (by omega) ?_;(conv=>whnf)
    refine ⟨rfl,_,rfl,?_⟩;(conv=>whnf)
    have hm:=p1;have jf:=PZ (l:=O) (by assumption) p1 p2 (Or.inl rfl);clear ih p1 p2;(refine XL (enc:=C3) (λ_=>rfl) (by omega) ?_;(conv=>whnf);exact DH (by rw[<-hV,<-jf];rfl) (by simp only[EA,true_and];exact I7 _))
   ·have e1:((n+1:Nat):Int)-1=n:=by omega
    (repeat' ((first|(apply B6<;>intro hc<;>try omega)|(apply EL;omega)|(apply F8;omega)|(refine tE (by assumption) ?_ (λ v hv hb => ?_);omega)|apply BL)<;>conv=>whnf))
    ·rw[e1]
     exact FV [] (ih n (by omega) ⟨by omega,λ i h1 h2=>by
      by_cases h:i=n
      ·subst h
       rw[e1,Int.toNat_natCast]at hv;rw[hv];congr 1;omega
      ·exact p2 i (by omega) h2⟩)
    ·refine QX (n+1) (by omega) (by omega) ?_
     (conv=>whnf)
     refine ⟨rfl,_,rfl,?_⟩;(conv=>whnf)
     rw[e1,Int.toNat_natCast]at hv;have hm:=p1;have jf:=PZ (l:=O) (by assumption) p1 p2 (Or.inr ⟨_,hv,by omega⟩);clear ih p1 p2 hv;(refine XL (enc:=C3) (λ_=>rfl) (by omega) ?_;(conv=>whnf);exact DH (by rw[<-hV,<-jf];rfl) (by simp only[EA,true_and];exact I7 _))
 ·generalize dg (val a)=x at *
  generalize dg (val b)=y at *;rw[<-v1,<-v2];have hlen:y.length<=x.length:=by omega
  have hxl:x.length<=1099511627775:=by omega
  clear v1 v2 hA hB la lb;refine K9 (enc:=C3) 0 (x.length+1) rfl (by omega) (by omega) ?_;(conv=>whnf)
  (repeat' (apply C9<;>conv=>whnf))
  refine P6 (λ i _ _=>x.length-i) (λ(i:Nat) (o:List Nat) (c:Nat)=>i<=x.length/\o.length=x.length+1/\EK o/\c<=1/\val (o.take i)+4294967296^i*c=val (x.take i)+val (y.take i)) (λ i o c=>[(8,.int .u64 (c:Int)),(29,.int .i64 i)]) (λ i o c=>[(26,26,.rw 1 (o.map C3))]) 0 (List.replicate (x.length+1) 0) 0 ⟨by omega,by simp,Z9 _,by omega,by simp [val]⟩ ?_;intro i o c ⟨p1,p2,p3,p4,p5⟩ ih;by_cases hi:i<x.length
  ·(repeat' ((first|(apply B6<;>intro hc<;>try omega)|(apply EL;omega)|(apply PR;omega)|(apply HN;omega)|apply O7|apply C9|(refine Abq (by assumption) ?_ (λ e he hb => ?_);omega)|apply BL)<;>conv=>whnf))
   ·rename_i d hd _
    refine NT (by omega) ?_;(conv=>whnf)
    (repeat' ((first|(apply DD;omega)|apply N6)<;>conv=>whnf))
    refine GF [] (by (conv=>whnf);exact ⟨rfl,rfl,rfl⟩) (ih (i+1) _ _ (by omega) ⟨by omega,by simpa using p2,p3.set _ (by omega),by omega,?_⟩);have h1:=LR hd;have h2:=LR he;have h3:=pQ (val (o.take i)) (4294967296^i) (d+c+e);have h4:=PQ (v:=(d+c+e)%4294967296) (show i<o.length by omega);rw[h4,h1,h2,Nat.pow_succ];generalize 4294967296^i=p at *;rw[h3,Nat.mul_add,Nat.mul_add];omega
   ·refine NT (by omega) ?_
    (conv=>whnf)
    (repeat' ((first|(apply DD;omega)|apply N6)<;>conv=>whnf))
    refine GF [] (by (conv=>whnf);exact ⟨rfl,rfl,rfl⟩) (ih (i+1) _ _ (by omega) ⟨by omega,by simpa using p2,p3.set _ (by omega),by omega,?_⟩);have h1:=LR he;have h2:=Ac7 (y:=y) (i:=i) (by omega);have h3:=pQ (val (o.take i)) (4294967296^i) (e+c);have h4:=PQ (v:=(e+c)%4294967296) (show i<o.length by omega);rw[h4,h1,h2,Nat.pow_succ];generalize 4294967296^i=p at *;rw[h3,Nat.mul_add];omega
  ·obtain rfl:i=x.length:=by omega
   clear ih;(repeat' ((first|(apply B6<;>intro hc<;>try omega)|(apply EL;omega)|(apply L5;omega)|apply C9|apply BL)<;>conv=>whnf))
   refine NT (by omega) ?_;(conv=>whnf)
   skip
   have hV:val (o.set x.length c)=val x+val y:=by
    have h4:=PQ (v:=c) (show x.length<o.length by omega);rw[zT (by simp;omega)]at h4;rw[h4,p5,JT (Nat.le_refl _),JT hlen]
   have hD:EK (o.set x.length c):=p3.set _ (by omega);have hL:(o.set x.length c).length=x.length+1:=by simpa using p2
   clear p3 p4 p5 p2;generalize o.set x.length c=O at *;rw[<-hL];refine P8 1000 N.OZ rfl rfl ?_;(repeat' (apply BL<;>conv=>whnf))
   refine K4 (λ n=>n) (λ(n:Nat)=>n<=(O).length /\ ∀ i,n<=i->i<(O).length->(O)[i]? = some 0) (λ n=>[(3,.int .i64 n)]) (λ_=>[]) [] [] (O).length (by first|exact (by (conv=>whnf);exact ⟨rfl,rfl,rfl⟩)|(simp only[List.length_set,List.length_replicate];exact (by (conv=>whnf);exact ⟨rfl,rfl,rfl⟩))) ⟨Nat.le_refl _,λ i h1 h2=>by omega⟩ ?_;intro n ⟨p1,p2⟩ ih;rcases n with _|n
   ·(repeat' ((first|(apply B6<;>intro hc<;>try omega)|apply BL)<;>conv=>whnf))
    refine QX 0 (by omega) (by omega) ?_;(conv=>whnf)
    refine ⟨rfl,_,rfl,?_⟩;(conv=>whnf)
    have hm:=p1;have jf:=PZ (l:=O) (by assumption) p1 p2 (Or.inl rfl);clear ih p1 p2;(refine XL (enc:=C3) (λ_=>rfl) (by omega) ?_;(conv=>whnf);exact DH (by rw[<-hV,<-jf];rfl) (by simp only[EA,true_and];exact I7 _))
   ·have e1:((n+1:Nat):Int)-1=n:=by omega
    (repeat' ((first|(apply B6<;>intro hc<;>try omega)|(apply EL;omega)|(apply F8;omega)|(refine tE (by assumption) ?_ (λ v hv hb => ?_);omega)|apply BL)<;>conv=>whnf))
    ·rw[e1]
     exact FV [] (ih n (by omega) ⟨by omega,λ i h1 h2=>by
      by_cases h:i=n
      ·subst h
       rw[e1,Int.toNat_natCast]at hv;rw[hv];congr 1;omega
      ·exact p2 i (by omega) h2⟩)
    ·refine QX (n+1) (by omega) (by omega) ?_
     (conv=>whnf)
     refine ⟨rfl,_,rfl,?_⟩;(conv=>whnf)
     rw[e1,Int.toNat_natCast]at hv;have hm:=p1;have jf:=PZ (l:=O) (by assumption) p1 p2 (Or.inr ⟨_,hv,by omega⟩);clear ih p1 p2 hv;(refine XL (enc:=C3) (λ_=>rfl) (by omega) ?_;(conv=>whnf);exact DH (by rw[<-hV,<-jf];rfl) (by simp only[EA,true_and];exact I7 _))
theorem Aq8 {a b:Int} (h:JQ a b<=0):a<=b:=by
 unfold JQ at h;split at h
 ·omega
 ·split at h<;>omega
theorem Aq9 {a b:Int} (h:0<JQ a b):b<a:=by
 unfold JQ at h;split at h
 ·omega
 ·split at h<;>omega
theorem AjR (N:e9 L) (a b:List Nat) (q1 q2:Bool) (hA:EK a) (hB:EK b) (la:a.length<=1099511627776) (lb:b.length<=1099511627776):Ev L 69 [.sl q1 (a.map C3),.sl q2 (b.map C3)] (.sl false ((dg (val a-val b)).map C3)):=by
 have l1:=MT hA;have l2:=MT hB;have d1:=K0 (val a);have d2:=K0 (val b);have v1:=GO (val a);have v2:=GO (val b);refine Ev.x N.fU rfl rfl ?_;(repeat' ((first|(apply B6<;>intro hc<;>try omega)|apply C9|apply BL|refine BF (pZ N a b _ _ hA hB la lb) ?_|refine bV (cX N a _ hA la) ?_|refine bV (cX N b _ hB lb) ?_)<;>conv=>whnf))
 ·have:=Aq8 hc
  refine DH ?_ (by simp only[EA,true_and];exact I7 _);rw[show val a-val b=0 by omega,NE];rfl
 ·have o5:=Aq9 hc
  have Ff:(dg (val b)).length<=(dg (val a)).length:=by
   rcases Nat.lt_or_ge (dg (val a)).length (dg (val b)).length with h|h
   ·have:=zA h;omega
   ·exact h
  have Fg:val b<val a:=by omega
  clear o5 hc;generalize dg (val a)=x at *;generalize dg (val b)=y at *;rw[<-v1,<-v2]at Fg ⊢;clear v1 v2 hA hB lb;refine K9 (enc:=C3) 0 x.length rfl rfl (by omega) ?_;(conv=>whnf)
  (repeat' (apply C9<;>conv=>whnf))
  refine P6 (λ i _ _=>x.length-i) (λ(i:Nat) (o:List Nat) (c:Nat)=>i<=x.length/\o.length=x.length/\EK o/\c<=1/\val (o.take i)+val (y.take i)=val (x.take i)+4294967296^i*c) (λ i o c=>[(8,.int .u64 (c:Int)),(25,.int .i64 i)]) (λ i o c=>[(22,22,.rw 1 (o.map C3))]) 0 (List.replicate x.length 0) 0 ⟨by omega,by simp,Z9 _,by omega,by simp [val]⟩ ?_;intro i o c ⟨p1,p2,p3,p4,p5⟩ ih;by_cases hi:i<x.length
  ·(repeat' ((first|(apply B6<;>intro hc<;>try omega)|(apply EL;omega)|(apply Abo;omega)|(apply HN;omega)|apply O7|apply C9|(refine Abq (by assumption) ?_ (λ e he hb => ?_);omega)|apply BL)<;>conv=>whnf))
   ·rename_i d hd ft
    obtain ⟨s1,s2⟩:=Axu ft hb p4;refine NT (by omega) ?_;(conv=>whnf)
    (repeat' ((first|(apply DD;omega)|apply Abn)<;>conv=>whnf))
    generalize MD (MD d c) e=t at *;refine GF [] (by (conv=>whnf);exact ⟨rfl,rfl,rfl⟩) (ih (i+1) _ _ (by omega) ⟨by omega,by simpa using p2,p3.set _ (by omega),s2,?_⟩);rw[PQ (by omega),LR hd,LR he,Nat.pow_succ];exact An3 p5 s1
   ·obtain ⟨s1,s2⟩:=Axt hb p4
    refine NT (by omega) ?_;(conv=>whnf)
    (repeat' ((first|(apply DD;omega)|apply Abn)<;>conv=>whnf))
    generalize MD e c=t at *;refine GF [] (by (conv=>whnf);exact ⟨rfl,rfl,rfl⟩) (ih (i+1) _ _ (by omega) ⟨by omega,by simpa using p2,p3.set _ (by omega),s2,?_⟩);rw[PQ (by omega),LR he,Ac7 (by omega),Nat.pow_succ];rw[<-Nat.add_zero (t%4294967296)]at s1;have:=An3 (e:=0) p5 s1
    rw[Nat.mul_zero,Nat.add_zero]at this;exact this
  ·obtain rfl:i=x.length:=by omega
   clear ih;have qy:c=0:=by
    rw[JT (by omega),JT Ff,JT (Nat.le_refl _)]at p5;have:=NH p3
    rw[p2]at this;rcases Nat.eq_zero_or_pos c with h|h
    ·exact h
    ·have:c=1:=by omega
     subst this;omega
   subst qy;have hV:val o=val x-val y:=by
    rw[JT (by omega),JT Ff,JT (Nat.le_refl _)]at p5;omega
   clear p5 p4;rw[<-p2];(repeat' ((first|(apply B6<;>intro hc<;>try omega)|apply BL)<;>conv=>whnf))
   refine P8 1000 N.OZ rfl rfl ?_;(repeat' (apply BL<;>conv=>whnf))
   refine K4 (λ n=>n) (λ(n:Nat)=>n<=(o).length /\ ∀ i,n<=i->i<(o).length->(o)[i]? = some 0) (λ n=>[(3,.int .i64 n)]) (λ_=>[]) [] [] (o).length (by first|exact (by (conv=>whnf);exact ⟨rfl,rfl,rfl⟩)|(simp only[List.length_set,List.length_replicate];exact (by (conv=>whnf);exact ⟨rfl,rfl,rfl⟩))) ⟨Nat.le_refl _,λ i h1 h2=>by omega⟩ ?_;intro n ⟨p1,p2⟩ ih;rcases n with _|n
   ·(repeat' ((first|(apply B6<;>intro hc<;>try omega)|apply BL)<;>conv=>whnf))
    refine QX 0 (by omega) (by omega) ?_;(conv=>whnf)
    refine ⟨rfl,_,rfl,?_⟩;(conv=>whnf)
    have hm:=p1;have jf:=PZ (l:=o) (by assumption) p1 p2 (Or.inl rfl);clear ih p1 p2;(refine XL (enc:=C3) (λ_=>rfl) (by omega) ?_;(conv=>whnf);exact DH (by rw[<-hV,<-jf];rfl) (by simp only[EA,true_and];exact I7 _))
   ·have e1:((n+1:Nat):Int)-1=n:=by omega
    (repeat' ((first|(apply B6<;>intro hc<;>try omega)|(apply EL;omega)|(apply F8;omega)|(refine tE (by assumption) ?_ (λ v hv hb => ?_);omega)|apply BL)<;>conv=>whnf))
    ·rw[e1]
     exact FV [] (ih n (by omega) ⟨by omega,λ i h1 h2=>by
      by_cases h:i=n
      ·subst h
       rw[e1,Int.toNat_natCast]at hv;rw[hv];congr 1;omega
      ·exact p2 i (by omega) h2⟩)
    ·refine QX (n+1) (by omega) (by omega) ?_
     (conv=>whnf)
     refine ⟨rfl,_,rfl,?_⟩;(conv=>whnf)
     rw[e1,Int.toNat_natCast]at hv;have hm:=p1;have jf:=PZ (l:=o) (by assumption) p1 p2 (Or.inr ⟨_,hv,by omega⟩);clear ih p1 p2 hv;(refine XL (enc:=C3) (λ_=>rfl) (by omega) ?_;(conv=>whnf);exact DH (by rw[<-hV,<-jf];rfl) (by simp only[EA,true_and];exact I7 _))
theorem AeP (N:e9 L) (a b:List Nat) (q1 q2:Bool) (hA:EK a) (hB:EK b) (lab:a.length+b.length<=1099511627776):Ev L 70 [.sl q1 (a.map C3),.sl q2 (b.map C3)] (.sl false ((dg (val a*val b)).map C3)):=by
 have l1:=MT hA;have l2:=MT hB;have d1:=K0 (val a);have d2:=K0 (val b);have v1:=GO (val a);have v2:=GO (val b);refine Ev.x N.fS rfl rfl ?_;have hz : ∀ p:Prop,((dg (val a)).length:Int)=0\/((dg (val b)).length:Int)=0->B9 (.sl false []) (.sl false ((dg (val a*val b)).map C3)):=λ_ h=>by
  have:val a*val b=0:=by
   rcases h with h|h
   ·have:dg (val a)=[]:=List.eq_nil_of_length_eq_zero (by omega)
    rw[Aep.1 this,Nat.zero_mul]
   ·have:dg (val b)=[]:=List.eq_nil_of_length_eq_zero (by omega)
    rw[Aep.1 this,Nat.mul_zero]
  exact DH (by rw[this,NE];rfl) (by simp only[EA,true_and];exact I7 _)
 (repeat' ((first|(apply B6<;>intro hc<;>try omega)|(apply DD;omega)|apply C9|apply BL|refine bV (cX N a _ hA (by omega)) ?_|refine bV (cX N b _ hB (by omega)) ?_)<;>conv=>whnf))
 ·exact hz True (Or.inl hc)
 ·exact hz True (Or.inr hc)
 ·clear hz
  generalize dg (val a)=x at *;generalize dg (val b)=y at *;rw[<-v1,<-v2];have Dx:x.length+y.length<=1099511627776:=by omega
  clear v1 v2 hA hB lab l1 l2;refine K9 (enc:=C3) 0 (x.length+y.length) rfl (by omega) (by omega) ?_;(conv=>whnf)
  (repeat' (apply C9<;>conv=>whnf))
  refine MR (λ i _=>x.length-i) (λ(i:Nat) (o:List Nat)=>i<=x.length/\o.length=x.length+y.length/\EK o/\val o=val (x.take i)*val y /\ ∀ k,i+y.length<=k->k<o.length->o[k]? = some 0) (λ i o=>[(34,.int .i64 i)]) (λ i o=>[(31,31,.rw 1 (o.map C3))]) 0 (List.replicate (x.length+y.length) 0) ⟨by omega,by simp,Z9 _,by simp [val,Ada],λ k h1 h2=>by simp at h2;simp [h2]⟩ ?_;intro i O ⟨p1,p2,p3,p4,p5⟩ ih;by_cases hi:i<x.length
  ·obtain ⟨d,hd⟩ : ∃ d,x[i]? = some d:=⟨_,zE hi⟩
   have ft:=d1.at hd;(repeat' ((first|(apply B6<;>intro hc<;>try omega)|(apply DD;omega)|apply C9|(refine E4 (by assumption) ?_ rfl ?_;omega)|apply BL)<;>conv=>whnf))
   ·refine GF [] (by (conv=>whnf);exact ⟨rfl,rfl,rfl⟩) (ih (i+1) O (by omega) ⟨by omega,p2,p3,?_,λ k h1 h2=>p5 k (by omega) h2⟩)
    rw[LR hd,p4,show d=0 by omega,Nat.mul_zero,Nat.add_zero]
   ·refine P6 (λ j _ _=>y.length-j) (λ(j:Nat) (o:List Nat) (c:Nat)=>j<=y.length/\o.length=x.length+y.length/\EK o/\c<4294967296/\val o+4294967296^(i+j)*c=val O+4294967296^i*(d*val (y.take j)) /\ ∀ k,i+j<=k->o[k]? = O[k]?) (λ j o c=>[(10,.int .u64 (c:Int)),(43,.int .i64 j)]) (λ j o c=>[(31,31,.rw 1 (o.map C3))]) 0 O 0 ⟨by omega,p2,p3,by omega,by simp [val],λ_ _=>rfl⟩ ?_
    intro j o c ⟨r1,r2,r3,r4,r5,r6⟩ jh;have e1:((i:Int)+j).toNat=i+j:=by omega
    by_cases hj:j<y.length
    ·obtain ⟨w,hw⟩ : ∃ w,y[j]? = some w:=⟨_,zE hj⟩
     have hwb:=d2.at hw;have hm:=yA ft hwb;(repeat' ((first|(apply B6<;>intro hc<;>try omega)|(apply EL;omega)|(apply DD;omega)|(apply PR;omega)|(apply pB;omega)|(apply HN;omega)|apply O7|(refine E4 (by assumption) ?_ rfl ?_;omega)|(refine AhP (by assumption) ?_ (λ v hv hb => ?_);omega)|apply BL)<;>conv=>whnf))
     refine Abt (i+j) (by omega) (by omega) ?_;(conv=>whnf)
     (repeat' ((first|(apply DD;omega)|apply N6)<;>conv=>whnf))
     refine GF [] (by (conv=>whnf);exact ⟨rfl,rfl,rfl⟩) (jh (j+1) _ _ (by omega) ⟨by omega,by simpa using r2,r3.set _ (by omega),by omega,?_,?_⟩)
     ·have h1:=Ac6 (v:=(d*w+v+c)%4294967296) hv
      have h2:=pQ 0 (4294967296^(i+j)) (d*w+v+c);rw[LR hw,show i+(j+1)=i+j+1 by omega,Nat.pow_succ (4294967296) (i+j)];have h3:4294967296^i*(d*(val (y.take j)+4294967296^j*w))=4294967296^i*(d*val (y.take j))+4294967296^(i+j)*(d*w):=by rw[Nat.pow_add];grind
      rw[h3];generalize 4294967296^(i+j)=P at *;rw[Nat.mul_add P,Nat.mul_add P]at h2;omega
     ·intro k hk
      rw[List.getElem?_set_ne (by omega)];exact r6 k (by omega)
    ·obtain rfl:j=y.length:=by omega
     clear jh;(repeat' ((first|(apply B6<;>intro hc<;>try omega)|(apply EL;omega)|(apply DD;omega)|(apply L5;omega)|apply C9|apply BL)<;>conv=>whnf))
     have hz:=r6 (i+y.length) (by omega);rw[p5 (i+y.length) (by omega) (by omega)]at hz;refine Abt (i+y.length) (by omega) (by omega) ?_;(conv=>whnf)
     (repeat' ((first|(apply DD;omega)|fail)<;>conv=>whnf))
     refine GF [] (by (conv=>whnf);exact ⟨rfl,rfl,rfl⟩) (ih (i+1) _ (by omega) ⟨by omega,by simpa using r2,r3.set _ (by omega),?_,?_⟩)
     ·have h1:=Ac6 (v:=c) hz
      rw[Nat.mul_zero,Nat.add_zero]at h1;rw[h1,r5,p4,JT (Nat.le_refl _),LR hd,Nat.add_mul,Nat.mul_assoc]
     ·intro k h1 h2
      rw[List.length_set]at h2;rw[List.getElem?_set_ne (by omega),r6 k (by omega)];exact p5 k (by omega) (by omega)
  ·obtain rfl:i=x.length:=by omega
   clear ih;rw[JT (Nat.le_refl _)]at p4;rw[<-p4,<-p2];(repeat' ((first|(apply B6<;>intro hc<;>try omega)|apply BL)<;>conv=>whnf))
   clear p5;refine P8 1000 N.OZ rfl rfl ?_;(repeat' (apply BL<;>conv=>whnf))
   refine K4 (λ n=>n) (λ(n:Nat)=>n<=(O).length /\ ∀ i,n<=i->i<(O).length->(O)[i]? = some 0) (λ n=>[(3,.int .i64 n)]) (λ_=>[]) [] [] (O).length (by first|exact (by (conv=>whnf);exact ⟨rfl,rfl,rfl⟩)|(simp only[List.length_set,List.length_replicate];exact (by (conv=>whnf);exact ⟨rfl,rfl,rfl⟩))) ⟨Nat.le_refl _,λ i h1 h2=>by omega⟩ ?_;intro n ⟨p1,p2⟩ ih;rcases n with _|n
   ·(repeat' ((first|(apply B6<;>intro hc<;>try omega)|apply BL)<;>conv=>whnf))
    refine QX 0 (by omega) (by omega) ?_;(conv=>whnf)
    refine ⟨rfl,_,rfl,?_⟩;(conv=>whnf)
    have hm:=p1;have jf:=PZ (l:=O) (by assumption) p1 p2 (Or.inl rfl);clear ih p1 p2;(refine XL (enc:=C3) (λ_=>rfl) (by omega) ?_;(conv=>whnf);exact DH (by rw[<-jf];rfl) (by simp only[EA,true_and];exact I7 _))
   ·have e1:((n+1:Nat):Int)-1=n:=by omega
    (repeat' ((first|(apply B6<;>intro hc<;>try omega)|(apply EL;omega)|(apply F8;omega)|(refine tE (by assumption) ?_ (λ v hv hb => ?_);omega)|apply BL)<;>conv=>whnf))
    ·rw[e1]
     exact FV [] (ih n (by omega) ⟨by omega,λ i h1 h2=>by
      by_cases h:i=n
      ·subst h
       rw[e1,Int.toNat_natCast]at hv;rw[hv];congr 1;omega
      ·exact p2 i (by omega) h2⟩)
    ·refine QX (n+1) (by omega) (by omega) ?_
     (conv=>whnf)
     refine ⟨rfl,_,rfl,?_⟩;(conv=>whnf)
     rw[e1,Int.toNat_natCast]at hv;have hm:=p1;have jf:=PZ (l:=O) (by assumption) p1 p2 (Or.inr ⟨_,hv,by omega⟩);clear ih p1 p2 hv;(refine XL (enc:=C3) (λ_=>rfl) (by omega) ?_;(conv=>whnf);exact DH (by rw[<-jf];rfl) (by simp only[EA,true_and];exact I7 _))
end Go.c9

namespace Go.c9
open F
section
variable {K:AV->Prop} {a b s:Nat} {k':IntKind}
theorem AhW (hs:s<=32) (hk:K (.int .u32 ((qP a s:Nat):Int))):BK .shl .u32 (a:Int) k' (s:Int) K:=by
 refine Adu (show s<=IntKind.u32.bits from hs) ?_;rw[wrap_u32,<-AgF];exact hk
theorem pJ (hs:s<=64) (h:a*2^s<=18446744073709551615) (hk:K (.int .u64 ((a*2^s:Nat):Int))):BK .shl .u64 (a:Int) k' (s:Int) K:=by
 refine Adu (show s<=IntKind.u64.bits from hs) ?_;rw[IntWalk.u64_in _ (by omega)];exact hk
theorem Adv (n:Nat) (hx:a%2^n=0) (hy:b<2^n) (h:a+b<=4294967295) (hk:K (.int .u32 ((a+b:Nat):Int))):BK .or .u32 (a:Int) .u32 (b:Int) K :=
 Adt n hx hy (show a+b<4294967296 by omega) (IntWalk.u32_in _ (by omega)) hk
theorem ApK (n:Nat) (hx:b%2^n=0) (hy:a<2^n) (h:a+b<=4294967295) (hk:K (.int .u32 ((a+b:Nat):Int))):BK .or .u32 (a:Int) .u32 (b:Int) K:=by
 have e:J0 .or .u32 (a:Int) .u32 (b:Int)=J0 .or .u32 (b:Int) .u32 (a:Int):=by
  simp only[J0,if_true,BitVec.or_comm]
 rw[Nat.add_comm]at hk h;obtain ⟨v,h1,h2⟩:=Adv (K:=K) n hx hy h hk;exact ⟨v,by rw[e];exact h1,h2⟩
theorem ApN (hs:s<=32) (hk:K (.int .u32 ((a/2^s:Nat):Int))):BK .shr .u32 (a:Int) k' (s:Int) K:=pI (show s<=IntKind.u32.bits from hs) hk
end
attribute [local irreducible] A0 B0 D8 BK IH DY FC E1 HI F9 IA LT GS EF HH H4 BD EU B9 pw IO H0 JM KX J9 GV IJ GT JW
set_option maxHeartbeats 1000000
variable {L:Lib}
def Ads (a:List Nat) (s:Nat) (o:List Nat):Prop:=EK o/\(a.length<=o.length/\o.length<=a.length+1)/\(val a*2^s<4294967296^o.length->val o=val a*2^s)
theorem Avp {a o:List Nat} {s lo:Nat} (hD:EK o) (hl:o.length=a.length) (h:val (o.take a.length)+4294967296^a.length*lo=val (a.take a.length)*2^s):Ads a s o:=by
 refine ⟨hD,by omega,λ o5 => ?_⟩;rw[JT (by omega),JT (Nat.le_refl _)]at h;rw[hl]at o5;have:lo=0:=by
  rcases Nat.eq_zero_or_pos lo with h0|h0
  ·exact h0
  ·have:4294967296^a.length*1<=4294967296^a.length*lo:=Nat.mul_le_mul_left _ h0
   omega
 subst this;omega
theorem AlE {a o:List Nat} {s lo:Nat} (hD:EK o) (yn:lo<4294967296) (hl:o.length=a.length+1) (h:val (o.take a.length)+4294967296^a.length*lo=val (a.take a.length)*2^s):Ads a s (o.set a.length lo):=by
 refine ⟨hD.set _ yn,by simp;omega,λ_ => ?_⟩;have h1:=PQ (v:=lo) (show a.length<o.length by omega);rw[JT (by simp;omega),h,JT (Nat.le_refl _)]at h1;exact h1
theorem Atn (N:e9 L) (a:List Nat) (q:Bool) (s n:Nat) (hA:EK a) (hs:s<=31) (hn:a.length<=n/\n<=a.length+1) (la:a.length<=1099511627776) : ∃ r,Ev L 71 [.sl q (a.map C3),.int .u64 (s:Int),.int .i64 (n:Int)] r /\ ∃ o,Ads a s o/\o.length=n/\r = .sl false (o.map C3):=by
 refine Ev.xE N.aR rfl rfl ?_;(repeat' (apply BL<;>conv=>whnf))
 refine K9 (enc:=C3) 0 n rfl rfl (by omega) ?_;(conv=>whnf)
 (repeat' (apply C9<;>conv=>whnf))
 refine P6 (λ i _ _=>a.length-i) (λ(i:Nat) (o:List Nat) (lo:Nat)=>i<=a.length/\o.length=n/\EK o/\lo<2^s/\val (o.take i)+4294967296^i*lo=val (a.take i)*2^s) (λ i o lo=>[(8,.int .u32 (lo:Int)),(15,.int .i64 i)]) (λ i o lo=>[(71012,71012,.rw 1 (o.map C3))]) 0 (List.replicate n 0) 0 ⟨by omega,by simp,Z9 _,Nat.two_pow_pos s,by simp [val]⟩ ?_;intro i o lo ⟨p1,p2,p3,p4,p5⟩ ih;have Dk:=Sx (s:=s) (by omega);by_cases hi:i<a.length
 ·obtain ⟨d,hd⟩ : ∃ d,a[i]? = some d:=⟨_,zE hi⟩
  have ft:=hA.at hd;obtain ⟨f1,f2,f3,f4⟩:=uZ (s:=s) ft (by omega);(repeat' ((first|(apply B6<;>intro hc<;>try omega)|(refine E4 (by assumption) ?_ rfl ?_;omega)|apply BL)<;>conv=>whnf))
  refine AhW (by omega) ?_;(conv=>whnf)
  skip
  refine Adv s f1 p4 (by omega) ?_;(conv=>whnf)
  (repeat' ((first|(apply EL;omega)|fail)<;>conv=>whnf))
  refine NT (by omega) ?_;(conv=>whnf)
  (repeat' ((first|(apply HN;omega)|fail)<;>conv=>whnf))
  refine pJ (by omega) f4 ?_;(conv=>whnf)
  (repeat' ((first|(apply DD;omega)|apply N6|(apply L5;omega))<;>conv=>whnf))
  rw[<-uY];refine GF [] (by (conv=>whnf);exact ⟨rfl,rfl,rfl⟩) (ih (i+1) _ _ (by omega) ⟨by omega,by simpa using p2,p3.set _ (by omega),f2,?_⟩);rw[PQ (by omega),LR hd,Nat.pow_succ];exact AlF p5
 ·obtain rfl:i=a.length:=by omega
  clear ih;(repeat' ((first|(apply B6<;>intro hc<;>try omega)|(apply EL;omega)|apply C9|apply BL)<;>conv=>whnf))
  ·refine NT (by omega) ?_
   (conv=>whnf)
   skip
   refine ⟨_,?_,_,AlE p3 (by omega) (by omega) p5,by simpa using p2,rfl⟩;(conv=>whnf)
   refine J2 (enc:=C3) (λ_=>rfl) rfl (by simp [p2]) ?_;(conv=>whnf)
   exact DH rfl (by simp only[EA,true_and];exact I7 _)
  ·refine ⟨_,?_,_,Avp p3 (by omega) p5,p2,rfl⟩
   (conv=>whnf)
   refine J2 (enc:=C3) (λ_=>rfl) rfl (by simp [p2]) ?_;(conv=>whnf)
   exact DH rfl (by simp only[EA,true_and];exact I7 _)
theorem Ato (N:e9 L) (a:List Nat) (q:Bool) (s:Nat) (hA:EK a) (hs:s<=31) (la:a.length<=1099511627776) : ∃ r,Ev L 72 [.sl q (a.map C3),.int .u64 (s:Int)] r /\ ∃ o,EK o/\o.length=a.length/\val o=val a/2^s/\r = .sl false (o.map C3):=by
 refine Ev.xE N.gC rfl rfl ?_;(repeat' ((first|apply C9|apply BL)<;>conv=>whnf))
 refine K9 (enc:=C3) 0 a.length rfl rfl (by omega) ?_;(conv=>whnf)
 (repeat' ((first|(apply F8;omega)|apply C9)<;>conv=>whnf))
 refine P6 (λ n _ _=>n) (λ(n:Nat) (o:List Nat) (hi:Nat)=>n<=a.length/\o.length=a.length/\EK o/\hi=val (a.drop n)%2^s*2^(32-s)/\val (o.drop n)=val (a.drop n)/2^s) (λ n o hi=>[(6,.int .u32 (hi:Int)),(7,.int .i64 ((n:Int)-1))]) (λ n o hi=>[(10,10,.rw 1 (o.map C3))]) a.length (List.replicate a.length 0) 0 ⟨by omega,by simp,Z9 _,by rw[List.drop_of_length_le (Nat.le_refl _)];simp [val],by rw[List.drop_of_length_le (Nat.le_refl _),List.drop_of_length_le (by simp)];simp [val]⟩ ?_;intro n o hi ⟨p1,p2,p3,p4,p5⟩ ih;rcases n with _|n
 ·(repeat' ((first|(apply B6<;>intro hc<;>try omega)|apply BL)<;>conv=>whnf))
  rw[List.drop_zero,List.drop_zero]at p5;refine ⟨_,?_,_,p3,p2,p5,rfl⟩;(conv=>whnf)
  refine J2 (enc:=C3) (λ_=>rfl) rfl p2.symm ?_;(conv=>whnf)
  exact DH rfl (by simp only[EA,true_and];exact I7 _)
 ·have e1:((n+1:Nat):Int)-1=n:=by omega
  rw[e1];obtain ⟨d,hd⟩ : ∃ d,a[n]? = some d:=⟨_,zE (by omega)⟩;have ft:=hA.at hd;obtain ⟨f1,f2,f3⟩:=AlO (V:=val (a.drop (n+1))) ft (show s<=32 by omega);obtain ⟨g1,g2,g3,g4⟩:=uZ ft (show 32-s<=32 by omega);rw[<-p4]at f2 f3;(repeat' ((first|(apply B6<;>intro hc<;>try omega)|(refine E4 (by assumption) ?_ rfl ?_;omega)|apply BL)<;>conv=>whnf))
  refine ApN (by omega) ?_;(conv=>whnf)
  skip
  refine ApK (32-s) f2 f1 (by omega) ?_;(conv=>whnf)
  (repeat' ((first|(apply EL;omega)|fail)<;>conv=>whnf))
  refine NT (by omega) ?_;(conv=>whnf)
  (repeat' ((first|(apply Abo;omega)|(apply HN;omega)|(refine E4 (by assumption) ?_ rfl ?_;omega))<;>conv=>whnf))
  rw[show MD 32 s=32-s by rw[vI];omega];refine pJ (by omega) g4 ?_;(conv=>whnf)
  (repeat' ((first|(apply F8;omega)|apply O7)<;>conv=>whnf))
  rw[Avv (by omega)];refine GF [] (by (conv=>whnf);exact ⟨rfl,rfl,rfl⟩) (ih n _ _ (by omega) ⟨by omega,by simpa using p2,p3.set _ (by omega),?_,?_⟩)
  ·rw[V7 hd,AlU (by omega)]
  ·rw[V7 (l:=o.set n (d/2^s+hi)) (d:=d/2^s+hi) (by rw[List.getElem?_set_self (by omega)]),List.drop_set_of_lt (by omega),p5,V7 hd,Afy (by omega),<-p4]
theorem Ab8 : ∀ n<256,(List.replicate 1 0++List.replicate 1 1++List.replicate 2 2++List.replicate 4 3++List.replicate 8 4++List.replicate 16 5++List.replicate 32 6++List.replicate 64 7++List.replicate 128 8)[n]? = some (ae n):=by decide +kernel
theorem AsU (N:e9 L) (x:Nat) (hx:x<4294967296):Ev L 63 [.int .u32 (x:Int)] (.int .i64 (ae x:Int)):=by
 have vg : ∀ y<256,ae y<=8:=λ y h=>Abx (k:=8) h
 refine Ev.x N.fJ rfl rfl ?_;(repeat' ((first|(apply B6<;>intro hc<;>try omega)|(apply DD;omega)|apply ApH|apply ApJ|(apply Apv;omega)|apply BL)<;>conv=>whnf))
 ·have hb8:=vg (x/65536/256) (by omega)
  refine Abu (Ab8 _ (by omega)) ?_;(conv=>whnf)
  (repeat' ((first|(apply DD;omega)|(apply sV;omega))<;>conv=>whnf))
  have h1:ae (x/65536)+16=ae x:=zX 16 (x:=x) (by omega);have h2:ae (x/65536/256)+8=ae (x/65536):=zX 8 (x:=x/65536) (by omega);refine IC ?_;rw[<-h1,<-h2];omega
 ·have hb8:=vg (x/65536) (by omega)
  refine Abu (Ab8 _ (by omega)) ?_;(conv=>whnf)
  (repeat' ((first|(apply DD;omega)|(apply sV;omega))<;>conv=>whnf))
  have h1:ae (x/65536)+16=ae x:=zX 16 (x:=x) (by omega);refine IC ?_;rw[<-h1];omega
 ·have hb8:=vg (x/256) (by omega)
  refine Abu (Ab8 _ (by omega)) ?_;(conv=>whnf)
  (repeat' ((first|(apply DD;omega)|(apply sV;omega))<;>conv=>whnf))
  have h2:ae (x/256)+8=ae x:=zX 8 (x:=x) (by omega);refine IC ?_;rw[<-h2];omega
 ·have hb8:=vg (x) (by omega)
  refine Abu (Ab8 _ (by omega)) ?_;(conv=>whnf)
  (repeat' ((first|(apply DD;omega)|(apply sV;omega))<;>conv=>whnf))
  refine IC ?_;omega
theorem AjD (N:e9 L) (x:Nat) (hx:x<4294967296):Ev L 64 [.int .u32 (x:Int)] (.int .i64 ((32-ae x:Nat):Int)):=by
 have h:=Abx (k:=32) hx;refine Ev.x N.fH rfl rfl ?_;(repeat' ((first|(apply F8;omega)|apply BL|refine BF (AsU N x hx) ?_)<;>conv=>whnf))
 refine IC ?_;omega
end Go.c9

namespace Go.c9
open F
attribute [local irreducible] A0 B0 D8 BK IH DY FC E1 HI F9 IA LT GS EF HH H4 BD EU B9 pw IO H0 JM KX J9 GV IJ GT JW
variable {L:Lib}
set_option maxHeartbeats 4000000
theorem aL (l:List Nat):EA (.sl false (l.map C3)):=by
 simp only[EA,true_and];exact I7 l
theorem Aid {M:Mem} {v:AV} {ky t z off len s:Nat} {l:List Nat} (hv:v = .row ky t z off len) (h:g7 M ky=some (s,.rw 1 (l.map C3))):tH M v=none:=by
 subst hv;unfold tH;split
 ·rename_i e
  simp only[AV.row.injEq]at e;obtain ⟨rfl,_⟩:=e;rw[h];cases l with
  | nil=>rfl
  | cons a l=>cases l<;>rfl
 ·rfl
theorem PV (N:a8 L) (l:List Nat) (q:Bool) (hD:EK l) (hl:l.length<=1099511627776):Ev L 101 [.sl q (l.map C3)] (.sl false ((dg (val l)).map C3)):=by
 refine Ev.x N.XA rfl rfl ?_;(repeat' ((first|apply C9|apply BL)<;>conv=>whnf))
 refine K7 (λ n=>n) (λ(n:Nat)=>n<=l.length /\ ∀ i,n<=i->i<l.length->l[i]? = some 0) (λ n=>[(3,.int .i64 n)]) (λ_=>[]) l.length ⟨Nat.le_refl _,λ i h1 h2=>by omega⟩ ?_;intro n ⟨p1,p2⟩ ih;rcases n with _|n
 ·have hv:=PZ hD p1 p2 (Or.inl rfl)
  rw[<-hv];clear ih;(repeat' ((first|(apply B6<;>intro hc<;>try omega)|apply BL)<;>conv=>whnf))
  refine dD (k:=0) (λ_=>rfl) (by omega) ?_;(conv=>whnf)
  refine qW (enc:=C3) (λ_=>rfl) (by rw[List.length_take];omega) (by rw[List.length_take];omega) ?_;(conv=>whnf)
  (repeat' ((refine J2 (λ_=>rfl) rfl ?_ ?_;(first|rfl|simp))<;>conv=>whnf))
  exact DH rfl (aL _)
 ·have e1:((n+1:Nat):Int)-1=n:=by omega
  (repeat' ((first|(apply B6<;>intro hc<;>try omega)|(apply F8;omega)|(refine rB (by assumption) ?_ (λ e he hb => ?_);omega)|apply BL)<;>conv=>whnf))
  ·rw[e1]
   exact FV [] (ih n (by omega) ⟨by omega,λ i h1 h2=>by
    by_cases h:i=n
    ·subst h
     rw[e1,Int.toNat_natCast]at he;rw[he];congr 1;omega
    ·exact p2 i (by omega) h2⟩)
  ·rw[e1,Int.toNat_natCast]at he
   have hv:=PZ hD p1 p2 (Or.inr ⟨e,he,by omega⟩);rw[<-hv];clear ih;refine dD (k:=n+1) (λ_=>rfl) (by omega) ?_;(conv=>whnf)
   refine qW (enc:=C3) (λ_=>rfl) (by rw[List.length_take];omega) (by rw[List.length_take];omega) ?_;(conv=>whnf)
   (repeat' ((refine J2 (λ_=>rfl) rfl ?_ ?_;(first|rfl|simp))<;>conv=>whnf))
   exact DH rfl (aL _)
theorem AeR (N:a8 L) (a b:List Nat) (q1 q2:Bool) (hA:EK a) (hB:EK b) (la:a.length<=1099511627776) (lb:b.length<=1099511627776):Ev L 102 [.sl q1 (a.map C3),.sl q2 (b.map C3)] (.int .i64 (JQ (val a) (val b))):=by
 have t1:=λ q=>PV N a q hA la
 have t2:=λ q=>PV N b q hB lb
 have l1:=MT hA;have l2:=MT hB;have d1:=K0 (val a);have d2:=K0 (val b);refine Ev.x N.jP rfl rfl ?_;by_cases hlen:(dg (val a)).length=(dg (val b)).length
 ·have v1:=GO (val a)
  have v2:=GO (val b);generalize dg (val a)=X at *;generalize dg (val b)=Y at *;(repeat' ((first|(apply B6<;>intro hc<;>try omega)|(apply F8;omega)|apply C9|apply BL|refine BF (t1 _) ?_|refine BF (t2 _) ?_)<;>conv=>whnf))
  refine K7 (λ n=>n) (λ(n:Nat)=>n<=X.length/\X.drop n=Y.drop n) (λ n=>[(5,.int .i64 ((n:Int)-1))]) (λ_=>[]) X.length ⟨Nat.le_refl _,by rw[List.drop_of_length_le (Nat.le_refl _),List.drop_of_length_le (by omega)]⟩ ?_;intro n ⟨p1,p2⟩ ih;rcases n with _|n
  ·(repeat' ((first|(apply B6<;>intro hc<;>try omega)|apply BL)<;>conv=>whnf))
   rw[List.drop_zero,List.drop_zero]at p2;exact IC (tO (by rw[<-v1,<-v2,p2]))
  ·have e1:((n+1:Nat):Int)-1=n:=by omega
   rw[e1];obtain ⟨x,hx⟩ : ∃ x,X[n]? = some x:=⟨_,zE (by omega)⟩;obtain ⟨y,hy⟩ : ∃ y,Y[n]? = some y:=⟨_,zE (by omega)⟩;rcases Nat.lt_trichotomy x y with h|h|h
   ·have:=Ac5 d1 d2 hlen hx hy p2 h
    (repeat' ((first|(apply B6<;>intro hc<;>try omega)|(refine E4 (by assumption) ?_ rfl ?_;omega)|apply BL)<;>conv=>whnf))
    exact IC (YM (by omega))
   ·subst h
    (repeat' ((first|(apply B6<;>intro hc<;>try omega)|(apply F8;omega)|(refine E4 (by assumption) ?_ rfl ?_;omega)|apply BL)<;>conv=>whnf))
    refine GF [] (by (conv=>whnf);exact ⟨rfl,rfl,rfl⟩) (ih n (by omega) ⟨by omega,?_⟩);obtain ⟨i1,e1⟩:=zS hx;obtain ⟨i2,e2⟩:=zS hy;rw[List.drop_eq_getElem_cons i1,List.drop_eq_getElem_cons i2,p2,e1,e2]
   ·have:=Ac5 d2 d1 hlen.symm hy hx p2.symm h
    (repeat' ((first|(apply B6<;>intro hc<;>try omega)|(refine E4 (by assumption) ?_ rfl ?_;omega)|apply BL)<;>conv=>whnf))
    exact IC (nT (by omega))
 ·rcases Nat.lt_trichotomy (dg (val a)).length (dg (val b)).length with h1|h1|h1
  ·have:=zA h1
   (repeat' ((first|(apply B6<;>intro hc<;>try omega)|apply C9|apply BL|refine BF (t1 _) ?_|refine BF (t2 _) ?_)<;>conv=>whnf))
   exact IC (YM (by omega))
  ·exact absurd h1 hlen
  ·have:=zA h1
   (repeat' ((first|(apply B6<;>intro hc<;>try omega)|apply C9|apply BL|refine BF (t1 _) ?_|refine BF (t2 _) ?_)<;>conv=>whnf))
   exact IC (nT (by omega))
theorem Ahs {y:List Nat} (i:Nat):val (y.take (i+1))=val (y.take i)+4294967296^i*y.getD i 0:=by
 rcases Nat.lt_or_ge i y.length with h|h
 ·rw[LR (zE h),QB (zE h)]
 ·rw[<-rU h,JT h,JT (by omega)];omega
theorem Aj6 (N:a8 L) (a b:List Nat) (q1 q2:Bool) (hA:EK a) (hB:EK b) (la:a.length<=549755813888) (lb:b.length<=549755813888):Ev L 103 [.sl q1 (a.map C3),.sl q2 (b.map C3)] (.sl false ((dg (val a+val b)).map C3)):=by
 refine Ev.x N.jN rfl rfl ?_;(repeat' (apply BL<;>conv=>whnf))
 refine P6 (λ i _ _=>a.length+b.length-i) (λ(i:Nat) (o:List Nat) (c:Nat)=>(i<=a.length\/i<=b.length)/\o.length=i/\EK o/\c<=1/\val o+4294967296^i*c=val (a.take i)+val (b.take i)) (λ i o c=>[(7,.int .i64 i),(6,.int .u64 (c:Int)),(5,.row 5 0 1 0 o.length)]) (λ i o c=>[(5,5,.rw 1 (o.map C3))]) 0 [] 0 ⟨by omega,rfl,wW,by omega,by simp [val]⟩ ?_;intro i o c ⟨p1,p2,p3,p4,p5⟩ ih;by_cases hi:i<a.length\/i<b.length
 ·have g1:=Ahs (y:=a) i
  have g2:=Ahs (y:=b) i;have k1:=rT hA i;have k2:=rT hB i;have o4 : ∀ t,t=c+a.getD i 0+b.getD i 0->val (o++[t%4294967296])+4294967296^(i+1)*(t/4294967296)=val (a.take (i+1))+val (b.take (i+1)):=λ t ht=>by
   have h3:=pQ (val o) (4294967296^i) t;rw[mY,p2,g1,g2,Nat.pow_succ];rw[h3,ht,Nat.mul_add,Nat.mul_add];omega
  by_cases h1:i<a.length
  ·obtain ⟨x,hx⟩ : ∃ x,a[i]? = some x:=⟨_,zE h1⟩
   have hxb:=hA.at hx;rw[QB hx]at o4;by_cases h2:i<b.length
   ·obtain ⟨y,hy⟩ : ∃ y,b[i]? = some y:=⟨_,zE h2⟩
    have Qp:=hB.at hy;rw[QB hy]at o4;(repeat' ((first|(apply B6<;>intro hc<;>try omega)|(apply PR;omega)|(apply HN;omega)|apply O7|apply C9|(refine E4 (by assumption) ?_ rfl ?_;omega)|apply KY|apply BL)<;>conv=>whnf))
    refine NL (enc:=C3) (((c+x+y)%4294967296:Nat)) rfl rfl rfl (by omega) (by omega) ?_;(conv=>whnf)
    (repeat' ((first|(apply DD;omega)|apply N6)<;>conv=>whnf))
    refine GF [(5,46)] (by (conv=>whnf);exact ⟨rfl,rfl,rfl⟩) (ih (i+1) (o++[(c+x+y)%4294967296]) ((c+x+y)/4294967296) (by omega) ⟨by omega,by simp;omega,p3.append (WU (by omega)),by omega,?_⟩);exact o4 (c+x+y) (by omega)
   ·rw[<-rU (show b.length<=i by omega)]at o4
    (repeat' ((first|(apply B6<;>intro hc<;>try omega)|(apply PR;omega)|(apply HN;omega)|apply O7|apply C9|(refine E4 (by assumption) ?_ rfl ?_;omega)|apply KY|apply BL)<;>conv=>whnf))
    refine NL (enc:=C3) (((c+x)%4294967296:Nat)) rfl rfl rfl (by omega) (by omega) ?_;(conv=>whnf)
    (repeat' ((first|(apply DD;omega)|apply N6)<;>conv=>whnf))
    refine GF [(5,46)] (by (conv=>whnf);exact ⟨rfl,rfl,rfl⟩) (ih (i+1) (o++[(c+x)%4294967296]) ((c+x)/4294967296) (by omega) ⟨by omega,by simp;omega,p3.append (WU (by omega)),by omega,?_⟩);exact o4 (c+x) (by omega)
  ·obtain ⟨y,hy⟩ : ∃ y,b[i]? = some y:=⟨_,zE (by omega)⟩
   have Qp:=hB.at hy;rw[QB hy,<-rU (show a.length<=i by omega)]at o4;(repeat' ((first|(apply B6<;>intro hc<;>try omega)|(apply PR;omega)|(apply HN;omega)|apply O7|apply C9|(refine E4 (by assumption) ?_ rfl ?_;omega)|apply KY|apply BL)<;>conv=>whnf))
   refine NL (enc:=C3) (((c+y)%4294967296:Nat)) rfl rfl rfl (by omega) (by omega) ?_;(conv=>whnf)
   (repeat' ((first|(apply DD;omega)|apply N6)<;>conv=>whnf))
   refine GF [(5,46)] (by (conv=>whnf);exact ⟨rfl,rfl,rfl⟩) (ih (i+1) (o++[(c+y)%4294967296]) ((c+y)/4294967296) (by omega) ⟨by omega,by simp;omega,p3.append (WU (by omega)),by omega,?_⟩);exact o4 (c+y) (by omega)
 ·clear ih
  have hv:val (o++[c])=val a+val b:=by
   rw[JT (by omega),JT (by omega)]at p5;rw[mY,p2,p5]
  have hT:=λ q=>PV N (o++[c]) q (p3.append (WU (by omega))) (by simp;omega)
  rw[hv]at hT;(repeat' ((first|(apply B6<;>intro hc<;>try omega)|(apply L5;omega)|apply C9|apply KY|apply BL)<;>conv=>whnf))
  refine NL (enc:=C3) c rfl rfl rfl (by omega) (by omega) ?_;(conv=>whnf)
  (repeat' ((first|(refine J2 (λ_=>rfl) rfl ?_ ?_;(first|rfl|simp))|refine BF (hT _) ?_)<;>conv=>whnf))
  exact DH rfl (aL _)
theorem AbG {a b:Nat} (h:b<=a):0<=JQ a b:=by unfold JQ;split<;>(try split)<;>omega
theorem AwH {V Y X p d e bw have' take w ja:Nat} (h:V+Y=X+p*bw) (h1:take=bw+e) (h2:(have'=d/\ja=0/\take<=d)\/(have'=d+4294967296/\ja=1/\d<take)) (h3:w+take=have'):V+p*w+(Y+p*e)=X+p*d+p*4294967296*ja:=by
 have h4:w+bw+e=d+4294967296*ja:=by omega
 have h5:p*(w+bw+e)=p*(d+4294967296*ja):=by rw[h4]
 rw[Nat.mul_add,Nat.mul_add,Nat.mul_add,<-Nat.mul_assoc]at h5;omega
theorem AmJ (N:a8 L) (x y:List Nat) (hX:EK x) (hY:EK y) (lx:x.length<=549755813888) (ly:y.length<=549755813888) (hle:val y<=val x) :
  A0 L [It.lp aC.l1,It.k8 0,It.code (((FX.ops aC.ib false).dr [1,5,6,7,21,53,54] []).seq FX.ret)]
  [(7,AV.int IntKind.i64 0),(6,AV.int IntKind.u64 0),(5,AV.row 101021 0 1 0 x.length),(1,AV.sl false (List.map C3 y))]
  [(101021,101021,FB.rw 1 (List.map C3 x))]
  (pK aC (AV.sl false (List.map C3 (dg (val x-val y))))):=by
 refine P6 (λ i _ _=>x.length-i) (λ(i:Nat) (o:List Nat) (bw:Nat)=>i<=x.length/\o.length=x.length/\EK o/\bw<=1/\o.drop i=x.drop i/\val (o.take i)+val (y.take i)=val (x.take i)+4294967296^i*bw) (λ i o bw=>[(7,.int .i64 i),(6,.int .u64 (bw:Int))]) (λ i o bw=>[(101021,101021,.rw 1 (o.map C3))]) 0 x 0 ⟨by omega,rfl,hX,by omega,rfl,by simp [val]⟩ ?_;intro i o bw ⟨p1,p2,p3,p4,p5,p6⟩ ih;by_cases hi:i<x.length
 ·obtain ⟨d,hd⟩ : ∃ d,o[i]? = some d:=⟨_,zE (by omega)⟩
  have ft:=p3.at hd;have hxi:x[i]? = some d:=by
   have e1:(o.drop i)[0]? = (x.drop i)[0]? := by rw[p5]
   simpa [hd] using e1.symm
  have g1:=LR hxi;have g2:=Ahs (y:=y) i;have ge:=rT hY i;have o4 : ∀ have' take w ja,take=bw+y.getD i 0->((have'=d/\ja=0/\take<=d)\/(have'=d+4294967296/\ja=1/\d<take))->w+take=have'->val ((o.set i w).take (i+1))+val (y.take (i+1))=val (x.take (i+1))+4294967296^(i+1)*ja:=λ have' take w ja a1 a2 a3=>by
   rw[PQ (by omega),g1,g2,Nat.pow_succ];exact AwH p6 a1 a2 a3
  have zu : ∀ w,(o.set i w).drop (i+1)=x.drop (i+1):=λ w=>by
   rw[List.drop_set_of_lt (by omega)];have e1:(o.drop i).drop 1=(x.drop i).drop 1:=by rw[p5]
   simpa using e1
  by_cases hy:i<y.length
  ·obtain ⟨e,he⟩ : ∃ e,y[i]? = some e:=⟨_,zE hy⟩
   have heb:=hY.at he;rw[QB he]at o4;by_cases o5:d<bw+e
   ·have h3:=o4 (d+4294967296) (bw+e) (d+4294967296-(bw+e)) 1 (by omega) (Or.inr ⟨rfl,rfl,o5⟩) (by omega)
    (repeat' ((first|(apply B6<;>intro hc<;>try omega)|(apply EL;omega)|(apply PR;omega)|(apply ZX;omega;omega)|(apply Abk;omega)|(apply HN;omega)|(apply L5;omega)|apply C9|(refine E4 (by assumption) ?_ rfl ?_;omega)|refine aI (by assumption) ?_|apply BL)<;>conv=>whnf))
    refine NT (by omega) ?_;(conv=>whnf)
    (repeat' ((first|(apply DD;omega)|fail)<;>conv=>whnf))
    exact GF [] (by (conv=>whnf);exact ⟨rfl,rfl,rfl⟩) (ih (i+1) (o.set i (d+4294967296-(bw+e))) 1 (by omega) ⟨by omega,by simpa using p2,p3.set _ (by omega),by omega,zu _,h3⟩)
   ·have h3:=o4 d (bw+e) (d-(bw+e)) 0 (by omega) (Or.inl ⟨rfl,rfl,by omega⟩) (by omega)
    (repeat' ((first|(apply B6<;>intro hc<;>try omega)|(apply EL;omega)|(apply PR;omega)|(apply ZX;omega;omega)|(apply HN;omega)|(apply L5;omega)|apply C9|(refine E4 (by assumption) ?_ rfl ?_;omega)|refine aI (by assumption) ?_|apply BL)<;>conv=>whnf))
    refine NT (by omega) ?_;(conv=>whnf)
    (repeat' ((first|(apply DD;omega)|fail)<;>conv=>whnf))
    exact GF [] (by (conv=>whnf);exact ⟨rfl,rfl,rfl⟩) (ih (i+1) (o.set i (d-(bw+e))) 0 (by omega) ⟨by omega,by simpa using p2,p3.set _ (by omega),by omega,zu _,h3⟩)
  ·rw[<-rU (show y.length<=i by omega)]at o4
   by_cases o5:d<bw
   ·have h3:=o4 (d+4294967296) (bw) (d+4294967296-(bw)) 1 (by omega) (Or.inr ⟨rfl,rfl,o5⟩) (by omega)
    (repeat' ((first|(apply B6<;>intro hc<;>try omega)|(apply EL;omega)|(apply ZX;omega;omega)|(apply Abk;omega)|(apply HN;omega)|(apply L5;omega)|apply C9|refine aI (by assumption) ?_|apply BL)<;>conv=>whnf))
    refine NT (by omega) ?_;(conv=>whnf)
    (repeat' ((first|(apply DD;omega)|fail)<;>conv=>whnf))
    exact GF [] (by (conv=>whnf);exact ⟨rfl,rfl,rfl⟩) (ih (i+1) (o.set i (d+4294967296-(bw))) 1 (by omega) ⟨by omega,by simpa using p2,p3.set _ (by omega),by omega,zu _,h3⟩)
   ·have h3:=o4 d (bw) (d-(bw)) 0 (by omega) (Or.inl ⟨rfl,rfl,by omega⟩) (by omega)
    (repeat' ((first|(apply B6<;>intro hc<;>try omega)|(apply EL;omega)|(apply ZX;omega;omega)|(apply HN;omega)|(apply L5;omega)|apply C9|refine aI (by assumption) ?_|apply BL)<;>conv=>whnf))
    refine NT (by omega) ?_;(conv=>whnf)
    (repeat' ((first|(apply DD;omega)|fail)<;>conv=>whnf))
    exact GF [] (by (conv=>whnf);exact ⟨rfl,rfl,rfl⟩) (ih (i+1) (o.set i (d-(bw))) 0 (by omega) ⟨by omega,by simpa using p2,p3.set _ (by omega),by omega,zu _,h3⟩)
 ·obtain rfl:i=x.length:=by omega
  clear ih;rw[JT (by omega),JT (Nat.le_refl _)]at p6;have h1:=NH p3;rw[p2]at h1;have h2:val (y.take x.length)<=val y:=by have:=vH y x.length;omega
  have td:bw=0:=by
   rcases Nat.eq_zero_or_pos bw with h|h
   ·exact h
   ·have:bw=1:=by omega
    subst this;omega
  subst td;have hve:val (y.take x.length)=val y:=by
   have h3:=vH y x.length;rcases Nat.eq_zero_or_pos (val (y.drop x.length)) with h|h
   ·rw[h]at h3;omega
   ·have h4:4294967296^x.length*1<=4294967296^x.length*val (y.drop x.length):=Nat.mul_le_mul_left _ h
    have h5:=NH hX;omega
  have hv:val o=val x-val y:=by omega
  have hT:=λ q=>PV N o q p3 (by omega)
  rw[<-hv,<-p2];(repeat' ((first|(apply B6<;>intro hc<;>try omega)|(refine J2 (λ_=>rfl) rfl ?_ ?_;(first|rfl|simp))|apply BL|refine BF (hT _) ?_)<;>conv=>whnf))
  exact DH rfl (aL _)
theorem AeS (N:a8 L) (a b:List Nat) (q1 q2:Bool) (hA:EK a) (hB:EK b) (la:a.length<=549755813888) (lb:b.length<=549755813888):Ev L 104 [.sl q1 (a.map C3),.sl q2 (b.map C3)] (.sl false ((dg (val a-val b)).map C3)):=by
 have q6:=λ q q'=>AeR N a b q q' hA hB (by omega) (by omega)
 have t2:=λ q=>PV N b q hB (by omega)
 refine Ev.x N.aC rfl rfl ?_;by_cases o5:val a<val b
 ·rw[<-YM (by omega)]at q6
  rw[show val a-val b=0 by omega,NE];(repeat' ((first|(apply B6<;>intro hc<;>try omega)|apply BL|refine BF (q6 _ _) ?_)<;>conv=>whnf))
  exact DH rfl (aL [])
 ·have zz:=AbG (show val b<=val a by omega)
  generalize JQ (val a) (val b)=cm at *;have d2:=K0 (val b);have v2:=GO (val b);have l2:=MT hB;rw[<-v2];rw[<-v2]at o5;generalize dg (val b)=y at *;have hdg : ∀ n,a.take n=dg (val a)->val (a.take n)=val a:=λ n h=>by rw[h,GO]
  (repeat' ((first|(apply B6<;>intro hc<;>try omega)|apply BL|refine BF (q6 _ _) ?_|refine BF (t2 _) ?_)<;>conv=>whnf))
  refine P8 1000 N.XA rfl rfl ?_;(repeat' ((first|apply C9|apply BL)<;>conv=>whnf))
  refine K7 (λ n=>n) (λ(n:Nat)=>n<=a.length /\ ∀ i,n<=i->i<a.length->a[i]? = some 0) (λ n=>[(3,.int .i64 n)]) (λ_=>[]) a.length ⟨Nat.le_refl _,λ i h1 h2=>by omega⟩ ?_;intro n ⟨p1,p2⟩ ih;rcases n with _|n
  ·have hv:=hdg _ (PZ hA p1 p2 (Or.inl rfl))
   clear ih;(repeat' ((first|(apply B6<;>intro hc<;>try omega)|apply BL)<;>conv=>whnf))
   refine dD (k:=0) (λ_=>rfl) (by omega) ?_;(conv=>whnf)
   refine qW (enc:=C3) (λ_=>rfl) (by rw[List.length_take];omega) (by rw[List.length_take];omega) ?_;(conv=>whnf)
   refine ⟨rfl,_,rfl,?_⟩;(conv=>whnf)
   skip
   rw[<-hv];exact GF [] (by (conv=>whnf);exact ⟨rfl,rfl,rfl⟩) (AmJ N (a.take 0) y (hA.take _) d2 (by simp) (by omega) (by omega))
  ·have e1:((n+1:Nat):Int)-1=n:=by omega
   (repeat' ((first|(apply B6<;>intro hc<;>try omega)|(apply F8;omega)|(refine rB (by assumption) ?_ (λ e he hb => ?_);omega)|apply BL)<;>conv=>whnf))
   ·rw[e1]
    exact FV [] (ih n (by omega) ⟨by omega,λ i h1 h2=>by
     by_cases h:i=n
     ·subst h
      rw[e1,Int.toNat_natCast]at he;rw[he];congr 1;omega
     ·exact p2 i (by omega) h2⟩)
   ·rw[e1,Int.toNat_natCast]at he
    have hv:=hdg _ (PZ hA p1 p2 (Or.inr ⟨_,he,by omega⟩));clear ih;refine dD (k:=n+1) (λ_=>rfl) (by omega) ?_;(conv=>whnf)
    refine qW (enc:=C3) (λ_=>rfl) (by rw[List.length_take];omega) (by rw[List.length_take];omega) ?_;(conv=>whnf)
    refine ⟨rfl,_,rfl,?_⟩;(conv=>whnf)
    skip
    rw[<-hv];exact GF [] (by (conv=>whnf);exact ⟨rfl,rfl,rfl⟩) (AmJ N (a.take (n+1)) y (hA.take _) d2 (by rw[List.length_take];omega) (by omega) (by omega))
theorem Aty (N:a8 L) (x y:List Nat) (q1 q2:Bool) (hA:EK x) (hB:EK y) (lab:x.length+y.length<=549755813888):Ev L 105 [.sl q1 (x.map C3),.sl q2 (y.map C3)] (.sl false ((dg (val x*val y)).map C3)):=by
 refine Ev.x N.jT rfl rfl ?_;(repeat' ((first|(apply DD;omega)|apply C9|apply BL)<;>conv=>whnf))
 refine K9 (enc:=C3) 0 (x.length+y.length+1) rfl (by omega) (by omega) ?_;(conv=>whnf)
 skip
 refine MR (λ i _=>x.length-i) (λ(i:Nat) (o:List Nat)=>i<=x.length/\o.length=x.length+y.length+1/\EK o/\val o=val (x.take i)*val y /\ ∀ k,i+y.length<=k->k<o.length->o[k]? = some 0) (λ i o=>[(6,.int .i64 i)]) (λ i o=>[(15,15,.rw 1 (o.map C3))]) 0 (List.replicate (x.length+y.length+1) 0) ⟨by omega,by simp,Z9 _,by simp [val,Ada],λ k h1 h2=>by simp at h2;simp [h2]⟩ ?_;intro i O ⟨p1,p2,p3,p4,p5⟩ ih;by_cases hi:i<x.length
 ·obtain ⟨d,hd⟩ : ∃ d,x[i]? = some d:=⟨_,zE hi⟩
  have ft:=hA.at hd;(repeat' ((first|(apply B6<;>intro hc<;>try omega)|apply C9|apply BL)<;>conv=>whnf))
  refine P6 (λ j _ _=>y.length-j) (λ(j:Nat) (o:List Nat) (c:Nat)=>j<=y.length/\o.length=x.length+y.length+1/\EK o/\c<4294967296/\val o+4294967296^(i+j)*c=val O+4294967296^i*(d*val (y.take j)) /\ ∀ k,i+j<=k->o[k]? = O[k]?) (λ j o c=>[(7,.int .u64 (c:Int)),(8,.int .i64 j)]) (λ j o c=>[(15,15,.rw 1 (o.map C3))]) 0 O 0 ⟨by omega,p2,p3,by omega,by simp [val],λ_ _=>rfl⟩ ?_;intro j o c ⟨r1,r2,r3,r4,r5,r6⟩ jh;have e1:((i:Int)+j).toNat=i+j:=by omega
  by_cases hj:j<y.length
  ·obtain ⟨w,hw⟩ : ∃ w,y[j]? = some w:=⟨_,zE hj⟩
   have hwb:=hB.at hw;have hm:=yA ft hwb;(repeat' ((first|(apply B6<;>intro hc<;>try omega)|(apply EL;omega)|(apply DD;omega)|(apply PR;omega)|(apply pB;omega)|(apply HN;omega)|apply O7|apply C9|(refine E4 (by assumption) ?_ rfl ?_;omega)|(refine AhP (by assumption) ?_ (λ v hv hb => ?_);omega)|apply BL)<;>conv=>whnf))
   refine Abt (i+j) (by omega) (by omega) ?_;(conv=>whnf)
   (repeat' ((first|(apply DD;omega)|apply N6)<;>conv=>whnf))
   refine GF [] (by (conv=>whnf);exact ⟨rfl,rfl,rfl⟩) (jh (j+1) _ _ (by omega) ⟨by omega,by simpa using r2,r3.set _ (by omega),by omega,?_,?_⟩)
   ·have h1:=Ac6 (v:=(c+(d*w+v))%4294967296) hv
    have h2:=pQ 0 (4294967296^(i+j)) (c+(d*w+v));rw[LR hw,show i+(j+1)=i+j+1 by omega,Nat.pow_succ (4294967296) (i+j)];have h3:4294967296^i*(d*(val (y.take j)+4294967296^j*w))=4294967296^i*(d*val (y.take j))+4294967296^(i+j)*(d*w):=by rw[Nat.pow_add];grind
    rw[h3];generalize 4294967296^(i+j)=P at *;rw[Nat.mul_add P c,Nat.mul_add P]at h2;omega
   ·intro k hk
    rw[List.getElem?_set_ne (by omega)];exact r6 k (by omega)
  ·obtain rfl:j=y.length:=by omega
   clear jh;have hz:=r6 (i+y.length) (by omega);rw[p5 (i+y.length) (by omega) (by omega)]at hz;(repeat' ((first|(apply B6<;>intro hc<;>try omega)|(apply EL;omega)|(apply DD;omega)|(apply L5;omega)|apply C9|apply BL)<;>conv=>whnf))
   refine Abt (i+y.length) (by omega) (by omega) ?_;(conv=>whnf)
   (repeat' ((first|(apply DD;omega)|fail)<;>conv=>whnf))
   refine GF [] (by (conv=>whnf);exact ⟨rfl,rfl,rfl⟩) (ih (i+1) _ (by omega) ⟨by omega,by simpa using r2,r3.set _ (by omega),?_,?_⟩)
   ·have h1:=Ac6 (v:=c) hz
    rw[Nat.mul_zero,Nat.add_zero]at h1;rw[h1,r5,p4,JT (Nat.le_refl _),LR hd,Nat.add_mul,Nat.mul_assoc]
   ·intro k h1 h2
    rw[List.length_set]at h2;rw[List.getElem?_set_ne (by omega),r6 k (by omega)];exact p5 k (by omega) (by omega)
 ·obtain rfl:i=x.length:=by omega
  clear ih;rw[JT (Nat.le_refl _)]at p4;have hT:=λ q=>PV N O q p3 (by omega)
  rw[p4]at hT;rw[<-p2];(repeat' ((first|(apply B6<;>intro hc<;>try omega)|apply C9|(refine J2 (λ_=>rfl) rfl ?_ ?_;(first|rfl|simp))|apply BL|refine BF (hT _) ?_)<;>conv=>whnf))
  exact DH rfl (aL _)
theorem ArF {d:Nat} (h0:d≠0) (hd:d<4294967296):dg d=[d]:=by
 rw[Z6 h0,Nat.div_eq_of_lt hd,NE,Nat.mod_eq_of_lt hd]
theorem Atw (N:a8 L) (d:Nat) (q:Bool) (h0:d≠0) (hd:d<4294967296):Ev L 106 [.sl q ([d].map C3)] (.int .i64 (ae d:Int)):=by
 have hT:=λ q=>PV N [d] q (WU hd) (by simp)
 rw[show val [d]=d by simp [val],ArF h0 hd]at hT;have Ff:[d].length=1:=rfl;have Bg:[d][(([d].length:Int)-1).toNat]? = some d:=rfl;have hb:=Abx (k:=32) hd;refine Ev.x N.jO rfl rfl ?_;(repeat' ((first|(apply B6<;>intro hc<;>try omega)|(apply F8;omega)|(apply NA;omega)|apply C9|(refine E4 (by assumption) ?_ rfl ?_;omega)|apply BL|refine BF (hT _) ?_)<;>conv=>whnf))
 refine MR (λ_ x=>x) (λ(n x:Nat)=>n+ae x=ae d/\x<=d) (λ n x=>[(3,.int .i64 n),(4,.int .u32 (x:Int))]) (λ_ _=>[]) 0 d ⟨by omega,Nat.le_refl _⟩ ?_;intro n x ⟨p1,p2⟩ ih;by_cases hx:x=0
 ·subst hx
  have:ae 0=0:=by unfold ae;simp
  (repeat' ((first|(apply B6<;>intro hc<;>try omega)|apply BL)<;>conv=>whnf))
  exact IC (by omega)
 ·have h1:ae (x/2)+1=ae x:=by
   by_cases h1:x=1
   ·subst h1;decide
   ·exact zX 1 (x:=x) (by omega)
  (repeat' ((first|(apply B6<;>intro hc<;>try omega)|(apply DD;omega)|apply ApG|apply BL)<;>conv=>whnf))
  exact FV [] (ih (n+1) (x/2) (by omega) ⟨by omega,by omega⟩)
theorem Aop {V P X lo s d p t:Nat} (h:V+P*p*lo=P*(X*2^s)) (ht:t=lo+d*2^s):V+P*p*(t%4294967296)+P*p*4294967296*(t/4294967296)=P*((X+p*d)*2^s):=by
 have h1:=pQ V (P*p) t;rw[h1,ht];have:P*((X+p*d)*2^s)=P*(X*2^s)+P*p*(d*2^s):=by grind
 rw[this,<-h,Nat.mul_add];omega
theorem Aj9 (N:a8 L) (l:List Nat) (q:Bool) (n:Nat) (hD:EK l) (hl:l.length<=549755813888) (hn:n<=65536):Ev L 107 [.sl q (l.map C3),.int .i64 (n:Int)] (.sl false ((dg (val l*2^n)).map C3)):=by
 have hT:=λ q=>PV N l q hD (by omega)
 have d1:=K0 (val l);have v1:=GO (val l);have l1:=MT hD;have hz:=YP (val l);refine Ev.x N.Y9 rfl rfl ?_;by_cases h0:val l=0
 ·rw[h0,Nat.zero_mul,NE]
  (repeat' ((first|(apply B6<;>intro hc<;>try omega)|apply C9|apply BL|refine BF (hT _) ?_)<;>conv=>whnf))
  exact DH rfl (aL [])
 rw[<-v1];generalize dg (val l)=x at *;have jl:n%32<32:=Nat.mod_lt _ (by omega);have e1:(n:Int)/32=((n/32:Nat):Int):=by omega
 have e2:(n:Int)%32=((n%32:Nat):Int):=by omega
 (repeat' ((first|(apply B6<;>intro hc<;>try omega)|(refine Z2 ?_ ?_ (λ_ => ?_) (λ_ _ => ?_);omega;omega;all_goals try omega)|apply C9|apply BL|refine BF (hT _) ?_)<;>conv=>whnf))
 rw[e1];refine K9 (enc:=C3) 0 (n/32) rfl rfl (by omega) ?_;(conv=>whnf)
 skip
 refine P6 (λ i _ _=>x.length-i) (λ(i:Nat) (o:List Nat) (c:Nat)=>i<=x.length/\o.length=n/32+i/\EK o/\c<2^(n%32)/\val o+4294967296^(n/32)*4294967296^i*c=4294967296^(n/32)*(val (x.take i)*2^(n%32))) (λ i o c=>[(10,.int .i64 i),(9,.int .u64 (c:Int)),(8,.row 107069 0 1 0 (n/32+i))]) (λ i o c=>[(107069,107069,.rw 1 (o.map C3))]) 0 (List.replicate (n/32) 0) 0 ⟨by omega,by simp,Z9 _,Nat.two_pow_pos _,by simp [val,Ada]⟩ ?_;intro i o c ⟨p1,p2,p3,p4,p5⟩ ih;have Dk:=Sx (s:=n%32) (by omega);by_cases hi:i<x.length
 ·obtain ⟨d,hd⟩ : ∃ d,x[i]? = some d:=⟨_,zE hi⟩
  have ft:=d1.at hd;obtain ⟨f1,f2,f3,f4⟩:=uZ (s:=n%32) ft (by omega);have hr:=Ach (show n%32<=64 by omega) f4;(repeat' ((first|(apply B6<;>intro hc<;>try omega)|(refine nL ?_ (λ_ _ _ => ?_) (λ_ _ _ _ => ?_);omega;all_goals try omega)|(apply HN;omega)|apply C9|(refine E4 (by assumption) ?_ rfl ?_;omega)|apply BL)<;>conv=>whnf))
  rw[e2];refine pJ (by omega) f4 ?_;(conv=>whnf)
  skip
  refine Abl (n%32) (Nat.mul_mod_left _ _) p4 (by omega) ?_;(conv=>whnf)
  have o4:=Aop (d:=d) p5 rfl;have Ek:(c+d*2^(n%32))/4294967296<2^(n%32):=by
   rw[Nat.div_lt_iff_lt_mul (by omega)];have:=zR (2^(n%32)) (show d<=4294967295 by omega)
   omega
  generalize c+d*2^(n%32)=t at *;(repeat' ((first|apply O7|apply KY)<;>conv=>whnf))
  refine NL (enc:=C3) (t%4294967296) rfl p2.symm rfl (by omega) (by omega) ?_;(conv=>whnf)
  (repeat' ((first|(apply DD;omega)|apply N6)<;>conv=>whnf))
  rw[show (o++[t%4294967296]).length=n/32+(i+1) by simp [p2];omega];refine GF [(107069,107091)] (by (conv=>whnf);exact ⟨rfl,rfl,rfl⟩) (ih (i+1) (o++[t%4294967296]) (t/4294967296) (by omega) ⟨by omega,by simp;omega,p3.append (WU (by omega)),Ek,?_⟩);rw[mY,p2,LR hd,Nat.pow_add,Nat.pow_succ,<-Nat.mul_assoc];exact o4
 ·obtain rfl:i=x.length:=by omega
  clear ih;have wx:c<4294967296:=by omega
  have hOD:EK (o++[c]):=p3.append (WU wx);have Xb:val (o++[c])=val x*2^n:=by
   rw[mY,p2,Nat.pow_add,p5,JT (Nat.le_refl _)];have e3:2^n=4294967296^(n/32)*2^(n%32):=by
    rw[show 4294967296=2^32 from rfl,<-Nat.pow_mul,<-Nat.pow_add];congr 1;omega
   rw[e3];grind
  have Wz:(o++[c]).length=n/32+x.length+1:=by simp [p2]
  (repeat' ((first|(apply B6<;>intro hc<;>try omega)|(apply L5;omega)|apply C9|apply KY|apply BL)<;>conv=>whnf))
  refine NL (enc:=C3) c rfl p2.symm rfl (by omega) (by omega) ?_;(conv=>whnf)
  rw[<-Xb,Wz];generalize o++[c]=O at *;rw[<-Wz];clear p3 p4 p5 Xb;refine P8 1000 N.XA rfl rfl ?_;(repeat' (apply BL<;>conv=>whnf))
  refine K7 (λ n=>n) (λ(n:Nat)=>n<=(O).length /\ ∀ i,n<=i->i<(O).length->(O)[i]? = some 0) (λ n=>[(3,.int .i64 n)]) (λ_=>[]) (O).length ⟨Nat.le_refl _,λ i h1 h2=>by omega⟩ ?_;intro n ⟨p1,p2⟩ ih;rcases n with _|n
  ·(repeat' ((first|(apply B6<;>intro hc<;>try omega)|apply BL)<;>conv=>whnf))
   refine QX 0 (by omega) (by omega) ?_;(conv=>whnf)
   have jf:=PZ (l:=O) (by assumption) p1 p2 (Or.inl rfl);have ag:(List.take 0 O).length<=(O).length:=by rw[List.length_take];omega
   clear ih p2;refine Abr (enc:=C3) (by omega) ?_;(conv=>whnf)
   rw[List.drop_zero,Nat.sub_zero];generalize Pm:List.take 0 O=T0 at *;refine qW (enc:=C3) (λ_=>rfl) (by omega) (by omega) ?_;(conv=>whnf)
   refine ⟨rfl,_,rfl,?_⟩;(conv=>whnf)
   (refine J2 (enc:=C3) (λ_=>rfl) rfl rfl ?_;(conv=>whnf);exact DH (by rw[<-jf]) (aL _))
  ·have e1:((n+1:Nat):Int)-1=n:=by omega
   (repeat' ((first|(apply B6<;>intro hc<;>try omega)|(apply EL;omega)|(apply F8;omega)|(refine tE (by assumption) ?_ (λ v hv hb => ?_);omega)|apply BL)<;>conv=>whnf))
   ·rw[e1]
    exact FV [] (ih n (by omega) ⟨by omega,λ i h1 h2=>by
     by_cases h:i=n
     ·subst h
      rw[e1,Int.toNat_natCast]at hv;rw[hv];congr 1;omega
     ·exact p2 i (by omega) h2⟩)
   ·refine QX (n+1) (by omega) (by omega) ?_
    (conv=>whnf)
    rw[e1,Int.toNat_natCast]at hv;have jf:=PZ (l:=O) (by assumption) p1 p2 (Or.inr ⟨_,hv,by omega⟩);have ag:(List.take (n+1) O).length<=(O).length:=by rw[List.length_take];omega
    clear ih p2 hv;(rw[Aid (l:=O)];rotate_left;exact rfl;exact rfl);(conv=>whnf)
    refine Abr (enc:=C3) (by omega) ?_;(conv=>whnf)
    rw[List.drop_zero,Nat.sub_zero];generalize Pm:List.take (n+1) O=T0 at *;refine qW (enc:=C3) (λ_=>rfl) (by omega) (by omega) ?_;(conv=>whnf)
    refine ⟨rfl,_,rfl,?_⟩;(conv=>whnf)
    (refine J2 (enc:=C3) (λ_=>rfl) rfl rfl ?_;(conv=>whnf);exact DH (by rw[<-jf]) (aL _))
theorem AxY {l:List Nat} (hD:EK l) (k:Nat) (hk:k<=l.length):val (l.drop k)=val l/4294967296^k:=by
 have h1:=bR l k hk;have h2:=NH (hD.take k);rw[List.length_take,Nat.min_eq_left hk]at h2;rw[h1,Nat.add_mul_div_left _ _ (Nat.pow_pos (by omega)),Nat.div_eq_of_lt h2,Nat.zero_add]
theorem Awd (n:Nat):2^n=4294967296^(n/32)*2^(n%32):=by
 rw[show 4294967296=2^32 from rfl,<-Nat.pow_mul,<-Nat.pow_add];congr 1;omega
theorem Ast {d e V r:Nat} (hd:d<4294967296) (hr:r<32):(d+e*4294967296)/2^r%4294967296+4294967296*((e+4294967296*V)/2^r)=(d+4294967296*(e+4294967296*V))/2^r:=by
 obtain ⟨f1,f2,f3⟩:=AlO (V:=e) hd (show r<=32 by omega);rw[Afy (d:=d) (V:=e+4294967296*V) (by omega),AlU (d:=e) (V:=V) (by omega)];have h1:=Afy (d:=d) (V:=e) (s:=r) (by omega);rw[show d+e*4294967296=d+4294967296*e by omega,h1];clear h1;generalize d/2^r=A at *;generalize e%2^r*2^(32-r)=Q at *;generalize e/2^r=Z at *;generalize 2^(32-r)=P at *;omega
theorem Atz (N:a8 L) (l:List Nat) (q:Bool) (n:Nat) (hD:EK l) (hl:l.length<=549755813888) (hn:1<=n/\n<=65536):Ev L 107 [.sl q (l.map C3),.int .i64 (-(n:Int))] (.sl false ((dg (val l/2^n)).map C3)):=by
 have hT:=λ q=>PV N l q hD (by omega)
 have d1:=K0 (val l);have v1:=GO (val l);have l1:=MT hD;have hz:=YP (val l);refine Ev.x N.Y9 rfl rfl ?_;by_cases h0:val l=0
 ·rw[h0,Nat.zero_div,NE]
  (repeat' ((first|(apply B6<;>intro hc<;>try omega)|apply C9|apply BL|refine BF (hT _) ?_)<;>conv=>whnf))
  exact DH rfl (aL [])
 rw[<-v1];generalize dg (val l)=x at *;have AEB:n%32<32:=Nat.mod_lt _ (by omega);have e1:(- -(n:Int))/32=((n/32:Nat):Int):=by omega
 have e2:(- -(n:Int))%32=((n%32:Nat):Int):=by omega
 by_cases AVD:32*x.length<n
 ·have o5:val x/2^n=0:=by
   refine Nat.div_eq_of_lt (Nat.lt_of_lt_of_le (NH d1) ?_);rw[show 4294967296=2^32 from rfl,<-Nat.pow_mul];exact Nat.pow_le_pow_right (by omega) (by omega)
  rw[o5,NE];(repeat' ((first|(apply B6<;>intro hc<;>try omega)|(apply NA;omega)|apply C9|apply BL|refine BF (hT _) ?_)<;>conv=>whnf))
  exact DH rfl (aL [])
 have hk:n/32<=x.length:=by omega
 have hvd:=AxY d1 _ hk;(repeat' ((first|(apply B6<;>intro hc<;>try omega)|(apply NA;omega)|(refine Z2 ?_ ?_ (λ_ => ?_) (λ_ _ => ?_);omega;omega;all_goals try omega)|(apply IH.neg;omega)|apply C9|apply BL|refine BF (hT _) ?_)<;>conv=>whnf))
 rw[e1];refine MR (λ i _=>x.length-i) (λ(i:Nat) (o:List Nat)=>n/32<=i/\i<=x.length/\o.length=i-n/32/\EK o/\val o+4294967296^(i-n/32)*(val (x.drop i)/2^(n%32))=val (x.drop (n/32))/2^(n%32)) (λ i o=>[(6,.int .i64 i),(5,.row 107005 0 1 0 o.length)]) (λ i o=>[(107005,107005,.rw 1 (o.map C3))]) (n/32) [] ⟨Nat.le_refl _,hk,by simp,wW,by simp [val]⟩ ?_;intro i o ⟨p0,p1,p2,p3,p5⟩ ih;by_cases hi:i<x.length
 ·obtain ⟨d,hd⟩ : ∃ d,x[i]? = some d:=⟨_,zE hi⟩
  have ft:=d1.at hd;have g1:=V7 hd;have g2:=vG x (i+1);have g3:=Ast (e:=x.getD (i+1) 0) (V:=val (x.drop (i+1+1))) ft AEB;rw[<-g2,<-g1]at g3;have key : ∀ t,t=d+x.getD (i+1) 0*4294967296->val (o++[t/2^(n%32)%4294967296])+4294967296^(i+1-n/32)*(val (x.drop (i+1))/2^(n%32))=val (x.drop (n/32))/2^(n%32):=λ t ht=>by
   rw[mY,p2,show i+1-n/32=(i-n/32)+1 by omega,Nat.pow_succ,ht,Nat.add_assoc,Nat.mul_assoc,<-Nat.mul_add,g3];exact p5
  by_cases hy:i+1<x.length
  ·obtain ⟨e,he⟩ : ∃ e,x[i+1]? = some e:=⟨_,zE hy⟩
   have heb:=d1.at he;have oz:x[((i:Int)+1).toNat]? = some e:=by rw[show ((i:Int)+1).toNat=i+1 by omega];exact he
   rw[QB he]at key;(repeat' ((first|(apply B6<;>intro hc<;>try omega)|(apply DD;omega)|(apply nJ;omega)|(apply HN;omega)|apply C9|(refine E4 (by assumption) ?_ rfl ?_;omega)|apply BL)<;>conv=>whnf))
   refine Abl 32 (Nat.mul_mod_left _ _) (by omega) (by omega) ?_;(conv=>whnf)
   (repeat' ((first|(refine nL ?_ (λ_ _ _ => ?_) (λ_ _ _ _ => ?_);omega;all_goals try omega)|(apply HN;omega))<;>conv=>whnf))
   rw[e2];refine pI (n:=n%32) (by show n%32<=64;omega) ?_;(conv=>whnf)
   (repeat' ((first|apply O7|apply KY)<;>conv=>whnf))
   refine NL (enc:=C3) ((d+e*4294967296)/2^(n%32)%4294967296) rfl rfl rfl (by omega) (by omega) ?_;(conv=>whnf)
   (repeat' ((first|(apply DD;omega)|fail)<;>conv=>whnf))
   exact FV [(107005,107064)] (ih (i+1) (o++[(d+e*4294967296)/2^(n%32)%4294967296]) (by omega) ⟨by omega,by omega,by simp;omega,p3.append (WU (by omega)),key (d+e*4294967296) rfl⟩)
  ·rw[<-rU (show x.length<=i+1 by omega),Nat.zero_mul]at key
   (repeat' ((first|(apply B6<;>intro hc<;>try omega)|(apply DD;omega)|(refine nL ?_ (λ_ _ _ => ?_) (λ_ _ _ _ => ?_);omega;all_goals try omega)|(apply HN;omega)|apply C9|(refine E4 (by assumption) ?_ rfl ?_;omega)|apply BL)<;>conv=>whnf))
   rw[e2];refine pI (n:=n%32) (by show n%32<=64;omega) ?_;(conv=>whnf)
   (repeat' ((first|apply O7|apply KY)<;>conv=>whnf))
   refine NL (enc:=C3) (d/2^(n%32)%4294967296) rfl rfl rfl (by omega) (by omega) ?_;(conv=>whnf)
   (repeat' ((first|(apply DD;omega)|fail)<;>conv=>whnf))
   exact FV [(107005,107064)] (ih (i+1) (o++[d/2^(n%32)%4294967296]) (by omega) ⟨by omega,by omega,by simp;omega,p3.append (WU (by omega)),key d rfl⟩)
 ·obtain rfl:i=x.length:=by omega
  clear ih;rw[List.drop_of_length_le (Nat.le_refl _),ZT,Nat.zero_div,Nat.mul_zero,Nat.add_zero,hvd,Nat.div_div_eq_div_mul,<-Awd]at p5;have hT2:=λ q=>PV N o q p3 (by omega)
  rw[p5]at hT2;(repeat' ((first|(apply B6<;>intro hc<;>try omega)|apply C9|(refine J2 (λ_=>rfl) rfl ?_ ?_;(first|rfl|simp))|apply BL|refine BF (hT2 _) ?_)<;>conv=>whnf))
  exact DH rfl (aL _)
end Go.c9
