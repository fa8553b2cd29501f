/-
  Rational numbers as signs and lists of digits, plain.
-/
import Derived.Test.YtmalpgkkffcbfaaGreatB7
import Derived.Test.YtmalpgkkffcbfaaGreatB1
import Derived.Test.YtmalpgkkffcbfaaGreatB2
set_option linter.unusedSimpArgs false
set_option linter.unusedVariables false
set_option linter.unnecessarySimpa false
namespace Go.b8
abbrev rQ (q1 q2 n:Bool) (m d:List Nat):List AV:=[.bool n,.sl q1 (m.map AL),.sl q2 (d.map AL)]
abbrev eQ (x:Rat):List AV:=rQ false false (decide (x.num<0)) (dg x.num.natAbs) (dg x.den)
def qv (n:Bool) (m d:List Nat):Rat:=mkRat (zv n m) (val d)
theorem EG (x:Rat):qv (decide (x.num<0)) (dg x.num.natAbs) (dg x.den)=x:=by
 unfold qv;rw[ES,BT,Rat.mkRat_self]
theorem pP {d:Nat} (z:Nat) (hd:d≠0):0<Nat.gcd d z:=Nat.gcd_pos_of_pos_left z (by omega)
theorem eT {z:Int} {d:Nat} (hd:d≠0):(mkRat z d).num.natAbs=z.natAbs/Nat.gcd d z.natAbs/\(mkRat z d).den=d/Nat.gcd d z.natAbs/\decide ((mkRat z d).num<0)=decide (z<0):=by
 have hg:=pP z.natAbs hd;have h1:=Rat.num_mkRat z d;have h2:=Rat.den_mkRat z d;rw[if_neg hd]at h1 h2;rw[h1,h2];obtain ⟨k,hk⟩:=Nat.gcd_dvd_right d z.natAbs;generalize hG:Nat.gcd d z.natAbs=g at *;have hz:z=(g:Int)*(z.sign*k):=by
  rw[<-Int.mul_assoc,Int.mul_comm (g:Int),Int.mul_assoc,<-Int.natCast_mul,<-hk,Int.sign_mul_natAbs]
 have e1:z/(g:Int)=z.sign*k:=by
  rw[hz,Int.mul_ediv_cancel_left _ (by omega),<-hz]
 refine ⟨?_,rfl,?_⟩
 ·rw[e1,Int.natAbs_mul,hk,Nat.mul_div_cancel_left _ hg]
  by_cases h0:z=0
  ·subst h0
   have:k=0:=by
    have h5:g*k=0:=hk.symm;rcases Nat.mul_eq_zero.1 h5 with h|h
    ·omega
    ·exact h
   subst this;simp
  ·rw[Int.natAbs_sign_of_ne_zero h0,Nat.one_mul];simp
 ·congr 1
  rw[eq_iff_iff];rw[Int.ediv_lt_iff_lt_mul (by omega),Int.zero_mul]
theorem DJ (x:Rat):A2 (.agg (eQ x)):=by
 simp only[A2,B8,and_true,true_and];exact ⟨B5 _,B5 _⟩
theorem UJ (b w:Bool) (m d:List Nat):A2 (.agg [.bool b,.sl false (m.map AL),.sl false (d.map AL),.bool w]):=by
 simp only[A2,B8,and_true,true_and];exact ⟨B5 _,B5 _⟩
theorem Sb (b:Bool) (m:List Nat):A2 (.agg [.bool b,.sl false (m.map AL)]):=by
 simp only[A2,B8,and_true,true_and];exact B5 _
theorem XH (b:Bool) (m d:List Nat):A2 (.agg [.bool b,.sl false (m.map AL),.sl false (d.map AL)]):=by
 simp only[A2,B8,and_true,true_and];exact ⟨B5 _,B5 _⟩
theorem U5 (q:Bool) (l:List Nat):T4 (.sl q (l.map AL)):=by
 intro e he c hc;obtain ⟨x,_,rfl⟩:=List.mem_map.1 he;simp at hc;subst hc;rfl
theorem aD {r:AV} {K:AV->Prop} (h:IV r) (hk:K (yi r)):BL r K:=⟨Or.inl h,by rw[eE h];exact hk⟩
theorem zA {r:AV} {K:AV->Prop} (h : ¬ IV r) (hd:QL r) (hk:K (J2 r)):BL r K:=⟨Or.inr hd,by rw[eD h];exact hk⟩
theorem F9 {b w q1 q2:Bool} {m d:List Nat} {K:AV->Prop} (hk:K (.agg [.bool b,.sl true (m.map AL),.sl true (d.map AL),.bool w])):BL (.agg [.bool b,.sl q1 (m.map AL),.sl q2 (d.map AL),.bool w]) K:=by
 refine aD ?_ hk;intro c hc;simp only[List.mem_cons,List.not_mem_nil,or_false]at hc;rcases hc with rfl|rfl|rfl|rfl
 ·trivial
 ·exact U5 _ _
 ·exact U5 _ _
 ·trivial
theorem jJ {b q1 q2:Bool} {m d:List Nat} {K:AV->Prop} (hk:K (.agg [.bool b,.sl true (m.map AL),.sl true (d.map AL)])):BL (.agg [.bool b,.sl q1 (m.map AL),.sl q2 (d.map AL)]) K:=by
 refine aD ?_ hk;intro c hc;simp only[List.mem_cons,List.not_mem_nil,or_false]at hc;rcases hc with rfl|rfl|rfl
 ·trivial
 ·exact U5 _ _
 ·exact U5 _ _
theorem QM {b q1:Bool} {m:List Nat} {K:AV->Prop} (hk:K (.agg [.bool b,.sl true (m.map AL)])):BL (.agg [.bool b,.sl q1 (m.map AL)]) K:=by
 refine aD ?_ hk;intro c hc;simp only[List.mem_cons,List.not_mem_nil,or_false]at hc;rcases hc with rfl|rfl
 ·trivial
 ·exact U5 _ _
theorem eA : ∀ l:List Nat,OC (l.map AL)=l.map AL
 | []=>by simp [OC]
 | x::l=>by rw[List.map_cons,OC,eA l];rfl
theorem QN {b b2 q1 q2:Bool} {m d:List Nat} {K:AV->Prop} (hk:K (.e6 [.agg [.bool b,.sl true (m.map AL)],.agg [.bool b2,.sl true (d.map AL)]])):BL (.e6 [.agg [.bool b,.sl q1 (m.map AL)],.agg [.bool b2,.sl q2 (d.map AL)]]) K:=by
 refine zA (λ h=>h) (λ v hv => ?_) ?_
 ·simp only[List.mem_cons,List.not_mem_nil,or_false]at hv
  rcases hv with rfl|rfl<;>trivial
 ·have e:J2 (.e6 [.agg [.bool b,.sl q1 (m.map AL)],.agg [.bool b2,.sl q2 (d.map AL)]]) = .e6 [.agg [.bool b,.sl true (OC (m.map AL))],.agg [.bool b2,.sl true (OC (d.map AL))]]:=rfl
  rw[e,eA,eA];exact hk
theorem YP {a b:Int} {d e:Nat} (hd:d≠0) (he:e≠0):mkRat a d+mkRat b e=mkRat (a*e+b*d) (d*e):=Rat.mkRat_add_mkRat a b hd he
theorem rR {a b:Int} {d:Nat} (hd:d≠0):mkRat a d+mkRat b d=mkRat (a+b) d:=by
 rw[YP hd hd,<-Int.add_mul,Rat.mkRat_mul_right hd]
theorem eR (a b:Int) (d e:Nat):mkRat a d*mkRat b e=mkRat (a*b) (d*e):=Rat.mkRat_mul_mkRat a b d e
theorem rT (a:Int):mkRat a 1=(a:Rat):=by
 have h:=Rat.mkRat_self (a:Rat);rw[Rat.num_intCast,Rat.den_intCast]at h;exact h
theorem YQ {z:Int} {d:Nat} (hd:d≠0):mkRat z d=0↔z=0:=Rat.mkRat_eq_zero hd
theorem eU {z:Int} {d:Nat} (hd:d≠0):n6 (mkRat z d).num=n6 z:=by
 obtain ⟨_,_,h⟩:=eT (z:=z) hd;have h0:(mkRat z d).num=0↔z=0:=by rw[Rat.num_eq_zero,YQ hd]
 have h1:(mkRat z d).num<0↔z<0:=by simpa using h
 unfold n6;by_cases a:z<0
 ·rw[if_pos a,if_pos (h1.2 a)]
 ·rw[if_neg a,if_neg (λ h=>a (h1.1 h))]
  by_cases b:z=0
  ·rw[if_neg (by omega),if_neg (by have:=h0.2 b;omega)]
  ·rw[if_pos (by omega),if_pos (by have:=mt h0.1 b;have:=mt h1.1 a;omega)]
theorem AfE {a b:Int} {d e:Nat} (hd:d≠0) (he:e≠0) (hb:b≠0):mkRat a d/mkRat b e=mkRat (b.sign*(a*e)) (d*b.natAbs):=by
 have hbn:b.natAbs≠0:=by omega
 have h1:mkRat b e≠0:=λ h=>hb ((YQ he).1 h)
 have key:mkRat (b.sign*(a*e)) (d*b.natAbs)*mkRat b e=mkRat a d:=by
  rw[eR];have e1:b.sign*(a*e)*b=a*((b.natAbs*e:Nat):Int):=by
   have:=Int.sign_mul_self b
   rw[Int.natCast_mul,<-this];grind
  rw[e1,show d*b.natAbs*e=d*(b.natAbs*e) by rw[Nat.mul_assoc]];exact Rat.mkRat_mul_right (Nat.mul_ne_zero hbn he)
 rw[<-key,Rat.mul_div_cancel h1]
theorem AhT {x y:Int} (hy:y≠0):zv (decide (x<0) != decide (y<0)) (dg x.natAbs)=y.sign*x:=by
 unfold zv;rw[BT];rcases Int.lt_or_gt_of_ne hy with h|h
 ·rw[Int.sign_eq_neg_one_of_neg h]
  by_cases hx:x<0
  ·simp [hx,h];omega
  ·simp [hx,h];omega
 ·rw[Int.sign_eq_one_of_pos h]
  by_cases hx:x<0
  ·simp [hx,show ¬ y<0 by omega];omega
  ·simp [hx,show ¬ y<0 by omega];omega
def Bt (k:Nat) (x:Rat):Prop:=x.num.natAbs<=2^k/\x.den<=2^k
theorem Bt.le {k l:Nat} {x:Rat} (h:Bt k x) (hl:k<=l):Bt l x:=by
 have:=Nat.pow_le_pow_right (show 0<2 by omega) hl
 exact ⟨Nat.le_trans h.1 this,Nat.le_trans h.2 this⟩
theorem Bt.mk {k:Nat} {z:Int} {d:Nat} (hz:z.natAbs<=2^k) (hd:d<=2^k):Bt k (mkRat z d):=by
 by_cases h0:d=0
 ·subst h0
  rw[Rat.mkRat_zero];exact ⟨by simp,by simp;exact Nat.one_le_two_pow⟩
 ·obtain ⟨e1,e2,_⟩:=eT (z:=z) h0
  unfold Bt;rw[e1,e2];exact ⟨Nat.le_trans (Nat.div_le_self _ _) hz,Nat.le_trans (Nat.div_le_self _ _) hd⟩
theorem Bt.add {k l:Nat} {x y:Rat} (hx:Bt k x) (hy:Bt l y):Bt (k+l+1) (x+y):=by
 rw[Rat.add_def'];refine Bt.mk ?_ ?_
 ·have h1:(x.num*y.den).natAbs<=2^k*2^l:=by rw[Int.natAbs_mul,Int.natAbs_natCast];exact Nat.mul_le_mul hx.1 hy.2
  have h2:(y.num*x.den).natAbs<=2^l*2^k:=by rw[Int.natAbs_mul,Int.natAbs_natCast];exact Nat.mul_le_mul hy.1 hx.2
  rw[Nat.mul_comm (2^l)]at h2;rw[Nat.pow_succ,Nat.pow_add];have h3:=Int.natAbs_add_le (x.num*y.den) (y.num*x.den);omega
 ·rw[Nat.pow_succ,Nat.pow_add]
  have:=Nat.mul_le_mul hx.2 hy.2
  omega
theorem Bt.mul {k l:Nat} {x y:Rat} (hx:Bt k x) (hy:Bt l y):Bt (k+l) (x*y):=by
 rw[Rat.mul_def'];refine Bt.mk ?_ ?_
 ·rw[Int.natAbs_mul,Nat.pow_add];exact Nat.mul_le_mul hx.1 hy.1
 ·rw[Nat.pow_add];exact Nat.mul_le_mul hx.2 hy.2
theorem Bt.zero (k:Nat):Bt k 0:=⟨by simp,by simp;exact Nat.one_le_two_pow⟩
theorem Bt.one (k:Nat):Bt k 1:=⟨by simp;exact Nat.one_le_two_pow,by simp;exact Nat.one_le_two_pow⟩
theorem Bt.Ny {k n:Nat} {x:Rat} (h:Bt k x) (hn:k<32*n):Sm n (dg x.num.natAbs)/\Sm n (dg x.den):=by
 have e:2^k<4294967296^n:=by
  rw[show 4294967296=2^32 from rfl,<-Nat.pow_mul];exact (Nat.pow_lt_pow_iff_right (by omega)).2 hn
 exact ⟨Sm.dg (Nat.lt_of_le_of_lt h.1 e),Sm.dg (Nat.lt_of_le_of_lt h.2 e)⟩
def Bs (k:Nat) (l:List Rat):Prop := ∀ x∈l,Bt k x
theorem Bs.at {k:Nat} {l:List Rat} (h:Bs k l) {i:Nat} {x:Rat} (hx:l[i]? = some x):Bt k x:=h x (zM hx)
theorem Bs.le {k j:Nat} {l:List Rat} (h:Bs k l) (hj:k<=j):Bs j l:=λ x hx=>(h x hx).le hj
theorem Bs.take {k:Nat} {l:List Rat} (h:Bs k l) (n:Nat):Bs k (l.take n):=λ x hx=>h x (List.mem_of_mem_take hx)
def A6:List Rat->List Rat->Rat
 | x::xs,y::ys=>x*y+A6 xs ys
 | _,_=>0
theorem SS (l:List Rat):A6 l []=0:=by cases l<;>rfl
theorem mO : ∀ {a b:List Rat} {x y:Rat},a.length=b.length->A6 (a++[x]) (b++[y])=A6 a b+x*y
 | [],[],x,y,_=>by show x*y+0=0+x*y;rw[Rat.add_zero,Rat.zero_add]
 | p::a,q::b,x,y,h=>by
  show p*q+A6 (a++[x]) (b++[y])=p*q+A6 a b+x*y;rw[mO (by simpa using h),Rat.add_assoc]
theorem Zb {a b:List Rat} {i:Nat} {x y:Rat} (hx:a[i]? = some x) (hy:b[i]? = some y):A6 (a.take (i+1)) (b.take (i+1))=A6 (a.take i) (b.take i)+x*y:=by
 have h1:=(zS hx).1;have h2:=(zS hy).1;rw[List.take_add_one,List.take_add_one,hx,hy,Option.toList_some,Option.toList_some,mO (by rw[List.length_take,List.length_take];omega)]
theorem bW {a b:List Rat} {n:Nat} (h:a.length=n):A6 (a.take n) (b.take n)=A6 a b:=by
 subst h;rw[zT (Nat.le_refl _)];induction a generalizing b with
 | nil=>cases b<;>rfl
 | cons x a ih=>cases b with
  | nil=>rfl
  | cons y b=>simp only[List.length_cons,List.take_succ_cons,A6,ih]
theorem Bs.dot {k l:Nat} : ∀ {a b:List Rat},Bs k a->Bs l b->Bt (a.length*(k+l+1)) (A6 a b)
 | [],b,_,_=>by cases b<;>exact Bt.zero _
 | x::a,[],_,_=>Bt.zero _
 | x::a,y::b,ha,hb=>by
  have h1:=(ha x (by simp)).mul (hb y (by simp));have h2:=Bs.dot (a:=a) (b:=b) (λ z hz=>ha z (by simp [hz])) (λ z hz=>hb z (by simp [hz]));refine (h1.add h2).le ?_;rw[List.length_cons,Nat.succ_mul];omega
structure aK where
 a:List (List Rat)
 b:List Rat
 c:List Rat
 d:Rat
def PK (n:Nat) (j:Int):List Rat:=(List.range n).map λ i:Nat=>if (i:Int)=j then 1 else 0
theorem wT (n:Nat) (j:Int):(PK n j).length=n:=by simp [PK]
def dP (n:Nat):List (List Rat):=(List.range n).map λ i:Nat=>PK n i
def P6 (m:List (List Rat)) (b:List Rat):List Rat:=m.map λ r=>A6 r b
def Ms (k:Nat) (m:List (List Rat)):Prop := ∀ r∈m,Bs k r
theorem Ms.at {k:Nat} {m:List (List Rat)} (h:Ms k m) {i:Nat} {r:List Rat} (hr:m[i]? = some r):Bs k r:=h r (zM hr)
theorem Ms.getD {k:Nat} {m:List (List Rat)} (h:Ms k m) (i j:Nat):Bt k ((m.getD i []).getD j 0):=by
 rw[List.getD_eq_getElem?_getD,List.getD_eq_getElem?_getD];cases e:m[i]? with
 | none=>exact Bt.zero k
 | some r =>
  simp only[Option.getD_some];cases e2:r[j]? with
  | none=>exact Bt.zero k
  | some x=>exact (h.at e).at e2
abbrev eO:Option Rat->List AV
 | none=>[.bool false,.nil,.nil]
 | some x=>eQ x
def C0 (l:List Rat) (m:Nat):List (Option Rat):=l.map some++List.replicate (m-l.length) none
theorem JZ (m:Nat):C0 [] m=List.replicate m none:=by simp [C0]
theorem HT {l:List Rat} {m:Nat} (h:l.length<=m):(C0 l m).length=m:=by simp [C0];omega
theorem IH {l:List Rat} {m:Nat} {x:Rat} (h:l.length<m):(C0 l m).set l.length (some x)=C0 (l++[x]) m:=by
 unfold C0;have e:m-l.length=(m-(l++[x]).length)+1:=by simp;omega
 rw[e,List.replicate_succ,List.set_append_right _ _ (by simp)];simp
theorem JY {l:List Rat} {m:Nat} (h:l.length=m):(C0 l m).map eO=l.map eQ:=by
 unfold C0;rw[h,Nat.sub_self];simp [Function.comp_def]
abbrev eS (S:aK):List AV:=[.sl false (S.a.map λ r=>[AV.sl false (r.map eQ)]),.sl false (S.b.map eQ),.sl false (S.c.map eQ)]++eQ S.d
theorem IZ (l:List Rat):EZ (l.map eQ):=UN (λ x=>by simp only[B8,A2,and_true,true_and];exact ⟨B5 _,B5 _⟩) l
theorem HK {l:List Rat} {i:Nat} {x:Rat} (h:l[i]? = some x):l.take (i+1)=l.take i++[x]:=by
 rw[List.take_add_one,h];rfl
def TG (N:Nat):List IR->Bool
 | []=>true
 | .tmp t::r=>Nat.blt t N&&TG N r
 | .cell t _ _::r=>Nat.blt t N&&TG N r
theorem gE {N:Nat} {s s':St} (ho:s.own=s'.own) (og : ∀ j,j<N->e5 s'.tm j=e5 s.tm j) : ∀ {res:List IR},TG N res=true->res.mapM (EX s)=res.mapM (EX s')
 | [],_=>rfl
 | .tmp t::r,h=>by
  simp only[TG,Bool.and_eq_true]at h;have:=gE ho og h.2
  simp only[List.mapM_cons,EX,og t (QV.1 h.1),this]
 | .cell t agg n::r,h=>by
  simp only[TG,Bool.and_eq_true]at h;have:=gE ho og h.2
  simp only[List.mapM_cons,EX,og t (QV.1 h.1),this,ho]
def Tg (N:Nat) (fn:AFn) (tm:Tm) (K:AV->Mem->Prop) (ae:Tm) (M':Mem):Prop:=gh N ae=tm/\ZG ae M' fn.res (λ rs=>Rl rs λ v=>K v M')
theorem FC {L:Lib} {f:Nat} {fn:AFn} {vs:List AV} {tm:Tm} {M:Mem} {K:AV->Mem->Prop} (N:Nat) (hL:L f=some fn) (hp:Nat.beq vs.length fn.ah=true) (hN:(Nat.ble fn.ah N&&(HO N fn.body&&TG N fn.res))=true)
  (h:AA L [.code fn.body] (CN 0 vs++F7 N tm) M (Tg N fn tm K)):A4 L f vs tm M K:=by
 intro σ own hs;simp only[Bool.and_eq_true]at hN;obtain ⟨n1,n2,n3⟩:=hN;have n1:=Nat.le_of_ble_eq_true n1;have hp:vs.length=fn.ah:=Nat.eq_of_beq_eq_true hp;have Mf:RX σ (CN 0 vs++F7 N tm) M ⟨LG (BG σ) (CN 0 vs++F7 N tm),own⟩:=⟨λ j=>Or.inr (by rw[KD];exact JQ (KC σ) j _),hs⟩;obtain ⟨n,c,s',hr,σ',ae,M',hR,hg,Cm⟩:=h σ _ Mf;have Le:Gh N (LG (BG σ) (F7 N tm)) (CN 0 (vs.map (BG σ))) (LG (BG σ) (CN 0 vs++F7 N tm)):=by
  constructor
  ·intro j hj
   rw[dR,JQ (KC σ),JQ (KC σ)];rcases V8 j (F7 N tm) (CN 0 vs) with ⟨_,e⟩|⟨hn,e⟩
   ·rw[e]
   ·rw[e,iN hj,iL j 0 vs hn]
  ·intro j hj
   rw[JQ (KC σ),JQ (KC σ)];rcases V8 j (F7 N tm) (CN 0 vs) with ⟨hn,e⟩|⟨_,e⟩
   ·have:=dQ j 0 vs hn
    omega
   ·rw[e]
 obtain ⟨s,r1,r2,r3⟩:=H6 n (by simp [P4,n2]) Le hr;obtain ⟨rs,i1,i2,i3⟩:=gD hR Cm;rw[<-gE (s:=s) r2.symm r3.lo n3,i3]at i1;have key : ∃ r,G9 (rs.map (BJ σ'))=BG σ' r/\K r M':=by
  match rs,i2,i3 with
  | [],h,_=>exact ⟨.e6 [],rfl,h⟩
  | [v],h,e =>
   simp only[List.map_cons,List.map_nil,List.cons.injEq,and_true]at e;exact ⟨v,by simp only[List.map_cons,List.map_nil,G9];exact e.symm,h⟩
  | a::b::l,h,_=>exact ⟨.e6 (a::b::l),rfl,h⟩
 obtain ⟨r,k1,k2⟩:=key;refine ⟨r,s.own,σ',M',GO.intro hL (by simpa using hp) ⟨n,c,s,r1,?_,rfl⟩,?_,?_,k2⟩
 ·rw[i1,Option.map_some,k1]
 ·rw[<-r2];exact hR.sat
 ·intro j
  have e1:tg tm j=tg ae (N+j):=by rw[KD,KD,<-hg,iK]
  rcases hR.tm (N+j) with e|e
  ·rw[e1,e];rfl
  ·rw[e1,<-e,r3.hi (N+j) (by omega),JQ (KC σ),iM,<-KD,e1]
theorem sE (σ:E0) (k:Nat) : ∀ (n i:Nat),B6 σ k i (List.replicate n none)=List.replicate n [.nil]
 | 0,_=>rfl
 | n+1,i=>by
  rw[List.replicate_succ,List.replicate_succ];show [AV.nil]::B6 σ k (i+1) (List.replicate n none)=_;rw[sE σ k n (i+1)]
theorem xM {L:Lib} {kk:List It} {tm:Tm} {M:Mem} {Q:Tm->Mem->Prop} (k s n:Nat) (e:b7 M k=some (s,.mx (List.replicate n none))) (h:AA L kk tm ((k,s,.rw 1 (List.replicate n [.nil]))::M) Q):AA L kk tm M Q:=by
 intro σ st hr;have hg : ∀ j t c,a7 ((k,s,.rw 1 (List.replicate n [.nil]))::M) j t=some c -> ∃ c0,a7 M j t=some c0/\c0.c7 σ j=c.c7 σ j:=by
  intro j t c g;by_cases hj:j=k
  ·subst hj
   cases t with
   | zero =>
    have h1:b7 ((j,s,A8.rw 1 (List.replicate n [.nil]))::M) j=some (s,.rw 1 (List.replicate n [.nil])):=by simp [b7]
    simp only[a7,h1,Option.some.injEq]at g;subst g;refine ⟨.mx (List.replicate n none),by simp only[a7,e],?_⟩;simp only[A8.c7,sE]
   | succ i =>
    have h1:b7 ((j,s,A8.rw 1 (List.replicate n [.nil]))::M) j=some (s,.rw 1 (List.replicate n [.nil])):=by simp [b7]
    simp only[a7,h1]at g;cases g
  ·have h1:b7 ((k,s,A8.rw 1 (List.replicate n [.nil]))::M) j=b7 M j:=by
    have hb:Nat.beq j k=false:=by
     cases nf:Nat.beq j k with
     | false=>rfl
     | true=>exact absurd (Nat.eq_of_beq_eq_true nf) hj
    simp only[b7,hb,cond_false]
   refine ⟨c,?_,rfl⟩;simp only[a7,h1]at g ⊢;exact g
 refine h σ st ⟨hr.tm,⟨?_,?_,?_,?_,?_⟩⟩
 ·intro j s' c g
  by_cases hj:j=k
  ·subst hj
   have h1:b7 ((j,s,A8.rw 1 (List.replicate n [.nil]))::M) j=some (s,.rw 1 (List.replicate n [.nil])):=by simp [b7]
   rw[h1]at g;simp only[Option.some.injEq,Prod.mk.injEq]at g;obtain ⟨rfl,_⟩:=g;exact hr.sat.site _ _ _ e
  ·have h1:b7 ((k,s,A8.rw 1 (List.replicate n [.nil]))::M) j=b7 M j:=by
    have hb:Nat.beq j k=false:=by
     cases nf:Nat.beq j k with
     | false=>rfl
     | true=>exact absurd (Nat.eq_of_beq_eq_true nf) hj
    simp only[b7,hb,cond_false]
   rw[h1]at g;exact hr.sat.site _ _ _ g
 ·intro j t c g
  obtain ⟨c0,q1,q2⟩:=hg j t c g;rw[<-q2];exact hr.sat.c7 _ _ _ q1
 ·intro j t c g
  obtain ⟨c0,q1,_⟩:=hg j t c g;exact hr.sat.old _ _ _ q1
 ·intro j t j' t' c c' g g' hσ
  obtain ⟨c0,q1,_⟩:=hg j t c g;obtain ⟨c1,q2,_⟩:=hg j' t' c' g';exact hr.sat.inj _ _ _ _ _ _ q1 q2 hσ
 ·intro j t c g hw
  cases t with
  | zero =>
   by_cases hj:j=k
   ·subst hj;exact hr.sat.low _ _ _ (D6 e) rfl
   ·rw[J5 hj]at g;exact hr.sat.low _ _ _ g hw
  | succ t =>
   obtain ⟨c0,q1,_⟩:=hg _ _ _ g;exact hr.sat.low _ _ _ q1 (YS q1)
theorem KR : ∀ a b:List Rat,A6 a b=A6 b a
 | [],[]=>rfl
 | [],_::_=>rfl
 | _::_,[]=>rfl
 | x::a,y::b=>by simp only[A6,KR a b,Rat.mul_comm]
theorem bX : ∀ (v:List Rat) (n:Nat),A6 (List.replicate n 0) v=0
 | [],n=>SS _
 | y::v,0=>rfl
 | y::v,n+1=>by rw[List.replicate_succ];simp only[A6,bX v n];grind
theorem mP (v:List Rat) (n:Nat):A6 v (List.replicate n 0)=0:=by rw[KR,bX]
theorem mN (x:Rat) : ∀ a b:List Rat,A6 (a.map (x * ·)) b=x*A6 a b
 | [],_=>by simp [A6]
 | _::_,[]=>by simp [A6]
 | p::a,q::b=>by simp only[List.map_cons,A6,mN x a b];grind
theorem AfK {n:Nat} {b:List Rat} (hb:b.length=n):P6 (dP n) b=b:=by
 have unit : ∀ (k n i:Nat) (b:List Rat),b.length=n->A6 ((List.range' k n).map λ a:Nat=>if (a:Int)=((k+i:Nat):Int) then 1 else 0) b=b.getD i 0:=by
  intro k n;induction n generalizing k with
  | zero=>intro i b hb;obtain rfl:=List.eq_nil_of_length_eq_zero hb;simp [A6]
  | succ n ih =>
   intro i b hb;cases b with
   | nil=>simp at hb
   | cons y b =>
    rw[List.range'_succ,List.map_cons,A6];cases i with
    | zero =>
     have hz:((List.range' (k+1) n).map λ a:Nat=>if (a:Int)=((k+0:Nat):Int) then (1:Rat) else 0)=List.replicate n 0:=by
      rw[List.eq_replicate_iff];refine ⟨by simp,λ x hx => ?_⟩;obtain ⟨a,ha,rfl⟩:=List.mem_map.1 hx;rw[if_neg];have:=(List.mem_range'_1.1 ha).1
      omega
     rw[hz,bX,if_pos (by simp)];simp [Rat.add_zero]
    | succ i =>
     have:=ih (k+1) i b (by simpa using hb)
     rw[show k+1+i=k+(i+1) by omega]at this;rw[this,if_neg (by omega),List.getD_cons_succ];grind
 refine List.ext_getElem? λ r => ?_
 simp only[P6,dP,List.getElem?_map];by_cases h:r<n
 ·rw[List.getElem?_range h]
  have:=unit 0 n r b hb
  rw[Nat.zero_add]at this;simp only[Option.map_some,PK,List.range_eq_range']at this ⊢;rw[this,List.getD_eq_getElem?_getD,zE (by omega)];rfl
 ·rw[List.getElem?_eq_none (by simp;omega),List.getElem?_eq_none (by omega)]
  rfl
def wQ (S:aK):Nat->List Rat
 | 0=>S.b
 | j+1=>P6 S.a (wQ S j)
def conv (A h:Nat->Rat) (K:Nat):Nat->Rat
 | 0=>0
 | a+1=>conv A h K a+A a*h (K-a)
def E8 (m:List (List Rat)) (X:List Rat):Prop := ∀ r∈m,A6 r X=0
def comb (p f l:Rat) (r t:List Rat):List Rat:=List.zipWith (λ x y=>(x*p-y*f)/l) r t
theorem bD {p f l:Rat} {r t:List Rat} (h:r.length=t.length):(comb p f l r t).length=r.length:=by simp [comb,h]
theorem XP (p f l:Rat) : ∀ (r t X:List Rat),r.length=t.length->A6 (comb p f l r t) X=(p*A6 r X-f*A6 t X)/l
 | [],[],X,_=>by
  show A6 [] X=_;simp only[A6,Rat.div_def];grind
 | x::r,y::t,[],_=>by
  simp only[comb,List.zipWith_cons_cons,A6,Rat.div_def];grind
 | x::r,y::t,z::X,h=>by
  have ih:=XP p f l r t X (by simpa using h);simp only[comb]at ih;simp only[comb,List.zipWith_cons_cons,A6,ih,Rat.div_def];grind
theorem Wl {p f l:Rat} {r t:List Rat} {j:Nat} {x y:Rat} (hx:r[j]? = some x) (hy:t[j]? = some y):(comb p f l r t)[j]? = some ((x*p-y*f)/l):=by
 simp [comb,List.getElem?_zipWith,hx,hy]
theorem OD {m:List (List Rat)} {i:Nat} {x r:List Rat} (h:r∈m.set i x):r=x \/ ∃ j,j≠i/\m[j]? = some r:=by
 obtain ⟨j,hj⟩:=List.getElem?_of_mem h;rw[List.getElem?_set]at hj;by_cases e:i=j
 ·subst e
  rw[if_pos rfl]at hj;split at hj
  ·exact Or.inl (Option.some.inj hj).symm
  ·cases hj
 ·rw[if_neg e]at hj
  exact Or.inr ⟨j,Ne.symm e,hj⟩
theorem qP {m:List (List Rat)} {i k:Nat} {r t:List Rat} {p f l:Rat} (hi:m[i]? = some r) (hk:m[k]? = some t) (ka:k≠i) (hl:r.length=t.length) (hp:p≠0) (h0:l≠0) (X:List Rat):E8 (m.set i (comb p f l r t)) X↔E8 m X:=by
 have hc:=XP p f l r t X hl;have w5:=(zS hi).1;constructor
 ·intro h r' sf
  have ht:A6 t X=0:=h t (by
   refine zM (i:=k) ?_;rw[List.getElem?_set,if_neg (Ne.symm ka)];exact hk)
  have hn:A6 (comb p f l r t) X=0:=h _ (zM (i:=i) (by rw[List.getElem?_set,if_pos rfl,if_pos w5]));rw[hc,ht]at hn;have u4:A6 r X=0:=by
   have e1:=Rat.div_mul_cancel h0 (a:=p*A6 r X-f*0);rw[hn]at e1;have e2:p*A6 r X=0:=by grind
   rcases Rat.mul_eq_zero.1 e2 with h|h
   ·exact absurd h hp
   ·exact h
  obtain ⟨j,hj⟩:=List.getElem?_of_mem sf;by_cases e:j=i
  ·subst e
   obtain rfl:=Option.some.inj (hi.symm.trans hj);exact u4
  ·exact h r' (zM (i:=j) (by rw[List.getElem?_set,if_neg (Ne.symm e)];exact hj))
 ·intro h r' sf
  rcases OD sf with rfl|⟨j,_,hj⟩
  ·rw[hc,h r (zM hi),h t (zM hk),Rat.div_def];grind
  ·exact h r' (zM hj)
theorem qO {m:List (List Rat)} {i k:Nat} {a b:List Rat} (hi:m[i]? = some a) (hk:m[k]? = some b) (X:List Rat):E8 ((m.set i b).set k a) X↔E8 m X:=by
 have w5:=(zS hi).1;have od:=(zS hk).1;constructor
 ·intro h r hr
  obtain ⟨j,hj⟩:=List.getElem?_of_mem hr;by_cases e1:j=k
  ·subst e1
   obtain rfl:=Option.some.inj (hk.symm.trans hj);by_cases e2:i=j
   ·subst e2
    obtain rfl:=Option.some.inj (hi.symm.trans hk);exact h _ (zM (i:=i) (by rw[List.getElem?_set,if_pos rfl,List.length_set,if_pos w5]))
   ·exact h _ (zM (i:=i) (by rw[List.getElem?_set,if_neg (Ne.symm e2),List.getElem?_set,if_pos rfl,if_pos w5]))
  ·by_cases e2:j=i
   ·subst e2
    obtain rfl:=Option.some.inj (hi.symm.trans hj);exact h _ (zM (i:=k) (by rw[List.getElem?_set,if_pos rfl,List.length_set,if_pos od]))
   ·exact h _ (zM (i:=j) (by rw[List.getElem?_set,if_neg (Ne.symm e1),List.getElem?_set,if_neg (Ne.symm e2)];exact hj))
 ·intro h r hr
  rcases OD hr with rfl|⟨j,_,hj⟩
  ·exact h _ (zM hi)
  ·rcases OD (zM hj) with rfl|⟨q,_,hq⟩
   ·exact h _ (zM hk)
   ·exact h _ (zM hq)
structure DF (m:List (List Rat)) (W c:Nat) (P:List Nat):Prop where
 lr : ∀ r∈m,r.length=W
 pl:P.length<=m.length
 inc : ∀ i j p q:Nat,i<j->P[i]? = some p->P[j]? = some q->p<q
 pb : ∀ p∈P,p<c
 nz : ∀ (i p:Nat) (r:List Rat),P[i]? = some p->m[i]? = some r->r.getD p 0≠0 /\ ∀ j,j<p->r.getD j 0=0
 zr : ∀ (i:Nat) (r:List Rat),P.length<=i->m[i]? = some r -> ∀ j,j<c->r.getD j 0=0
theorem DF.start {m:List (List Rat)} {W:Nat} (h : ∀ r∈m,r.length=W):DF m W 0 [] :=
 ⟨h,Nat.zero_le _,λ i j p q _ h=>by simp at h,(λ p h=>by cases h),(λ i p r h=>by simp at h),λ i r _ _ j hj=>absurd hj (by omega)⟩
theorem DF.skip {m:List (List Rat)} {W c:Nat} {P:List Nat} (h:DF m W c P) (hz : ∀ i r,P.length<=i->m[i]? = some r->r.getD c 0=0):DF m W (c+1) P :=
 ⟨h.lr,h.pl,h.inc,λ p hp=>Nat.lt_succ_of_lt (h.pb p hp),h.nz,λ i r hi hr j hj=>by
  by_cases e:j=c
  ·subst e;exact hz i r hi hr
  ·exact h.zr i r hi hr j (by omega)⟩
theorem DF.swap {m:List (List Rat)} {W c i k:Nat} {P:List Nat} {a b:List Rat} (h:DF m W c P) (hi:m[i]? = some a) (hk:m[k]? = some b) (h1:P.length<=i) (h2:P.length<=k):DF ((m.set i b).set k a) W c P:=by
 have hg : ∀ q,q<P.length->((m.set i b).set k a)[q]? = m[q]? := λ q hq=>by
  rw[List.getElem?_set,if_neg (by omega),List.getElem?_set,if_neg (by omega)]
 have hm : ∀ q r,P.length<=q->((m.set i b).set k a)[q]? = some r -> ∃ q',P.length<=q'/\m[q']? = some r:=λ q r hq hr=>by
  rw[List.getElem?_set]at hr;split at hr
  ·split at hr
   ·obtain rfl:=Option.some.inj hr;exact ⟨i,h1,hi⟩
   ·cases hr
  ·rw[List.getElem?_set]at hr
   split at hr
   ·split at hr
    ·obtain rfl:=Option.some.inj hr;exact ⟨k,h2,hk⟩
    ·cases hr
   ·exact ⟨q,hq,hr⟩
 refine ⟨λ r hr => ?_,by simpa using h.pl,h.inc,h.pb,λ q p r hp hr => ?_,λ q r hq hr j hj => ?_⟩
 ·rcases OD hr with rfl|⟨j,_,hj⟩
  ·exact h.lr _ (zM hi)
  ·rcases OD (zM hj) with rfl|⟨q,_,hq⟩
   ·exact h.lr _ (zM hk)
   ·exact h.lr _ (zM hq)
 ·rw[hg q (zS hp).1]at hr
  exact h.nz q p r hp hr
 ·obtain ⟨q',h3,h4⟩:=hm q r hq hr
  exact h.zr q' r h3 h4 j hj
theorem DF.qy {m:List (List Rat)} {W c:Nat} {P:List Nat} {t:List Rat} (h:DF m W c P) (ht:m[P.length]? = some t) (hn:t.getD c 0≠0) (hz : ∀ i r,P.length<i->m[i]? = some r->r.getD c 0=0):DF m W (c+1) (P++[c]):=by
 have ix:=(zS ht).1;refine ⟨h.lr,by simp;omega,λ i j p q qt hp hq => ?_,λ p hp => ?_,λ i p r hp hr => ?_,λ i r hi hr j hj => ?_⟩
 ·have db:=(zS hq).1
  rw[List.length_append,List.length_singleton]at db;rw[List.getElem?_append_left (by omega)]at hp;by_cases e:j<P.length
  ·rw[List.getElem?_append_left e]at hq
   exact h.inc i j p q qt hp hq
  ·rw[List.getElem?_append_right (by omega),show j-P.length=0 by omega]at hq
   obtain rfl:=Option.some.inj hq;exact h.pb p (zM hp)
 ·rcases List.mem_append.1 hp with hp|hp
  ·exact Nat.lt_succ_of_lt (h.pb p hp)
  ·obtain rfl:=List.mem_singleton.1 hp;omega
 ·by_cases e:i<P.length
  ·rw[List.getElem?_append_left e]at hp
   exact h.nz i p r hp hr
  ·have w5:=(zS hp).1
   rw[List.length_append,List.length_singleton]at w5;rw[List.getElem?_append_right (by omega),show i-P.length=0 by omega]at hp;obtain rfl:=Option.some.inj hp;obtain rfl:i=P.length:=by omega
   obtain rfl:=Option.some.inj (ht.symm.trans hr);exact ⟨hn,λ j hj=>h.zr P.length _ (Nat.le_refl _) ht j hj⟩
 ·rw[List.length_append,List.length_singleton]at hi
  by_cases e:j=c
  ·subst e;exact hz i r (by omega) hr
  ·exact h.zr i r (by omega) hr j (by omega)
theorem DF.diag {m:List (List Rat)} {W c:Nat} {P:List Nat} (h:DF m W c P) (hP:P.length=c) : ∀ i p:Nat,P[i]? = some p->p=i:=by
 have up : ∀ d i p:Nat,P[i]? = some p->i+d<c->p+d<c:=by
  intro d;induction d with
  | zero=>intro i p hp _;exact h.pb p (zM hp)
  | succ d ih =>
   intro i p hp hi;obtain ⟨q,hq⟩ : ∃ q,P[i+1]? = some q:=⟨_,zE (by omega)⟩;have h1:=h.inc i (i+1) p q (by omega) hp hq;have h2:=ih (i+1) q hq (by omega);omega
 have dn : ∀ i p:Nat,P[i]? = some p->i<=p:=by
  intro i;induction i with
  | zero=>intro p _;omega
  | succ i ih =>
   intro p hp;have w5:=(zS hp).1;obtain ⟨q,hq⟩ : ∃ q,P[i]? = some q:=⟨_,zE (by omega)⟩;have h1:=h.inc i (i+1) q p (by omega) hq hp;have h2:=ih q hq;omega
 intro i p hp;have w5:=(zS hp).1;have h1:=dn i p hp;have h2:=up (c-1-i) i p hp (by omega);omega
def DQ (f:Nat->Rat):Nat->Rat
 | 0=>0
 | n+1=>DQ f n+f n
theorem iE {f g:Nat->Rat} : ∀ n,(∀ j,j<n->f j=g j)->DQ f n=DQ g n
 | 0,_=>rfl
 | n+1,h=>by rw[DQ,DQ,iE n λ j hj=>h j (by omega),h n (by omega)]
theorem TP {f:Nat->Rat} : ∀ n,(∀ j,j<n->f j=0)->DQ f n=0
 | 0,_=>rfl
 | n+1,h=>by rw[DQ,TP n λ j hj=>h j (by omega),h n (by omega),Rat.add_zero]
theorem vX {f:Nat->Rat} {n:Nat} : ∀ d,(∀ j,n<=j->f j=0)->DQ f (n+d)=DQ f n
 | 0,_=>rfl
 | d+1,h=>by rw[<-Nat.add_assoc,DQ,vX d h,h (n+d) (by omega),Rat.add_zero]
theorem iF {f:Nat->Rat} {k:Nat} : ∀ n,k<n->(∀ j,j<n->j≠k->f j=0)->DQ f n=f k
 | n+1,hk,h=>by
  by_cases e:k=n
  ·subst e
   rw[DQ,TP k λ j hj=>h j (by omega) (by omega),Rat.zero_add]
  ·rw[DQ,iF n (by omega) λ j hj=>h j (by omega),h n (by omega) (Ne.symm e),Rat.add_zero]
theorem vY (R y:Nat->Rat) (v:Rat) (k:Nat) : ∀ n,DQ (λ j=>R j*(if j=k then v else y j)) n=DQ (λ j=>R j*y j) n+if k<n then R k*(v-y k) else 0
 | 0=>by simp [DQ,Rat.add_zero]
 | n+1=>by
  rw[DQ,DQ,vY R y v k n];by_cases e:n=k
  ·subst e
   rw[if_pos rfl,if_neg (Nat.lt_irrefl n),if_pos (Nat.lt_succ_self n)];grind
  ·rw[if_neg e]
   by_cases h:k<n
   ·rw[if_pos h,if_pos (by omega)];grind
   ·rw[if_neg h,if_neg (by omega)];grind
theorem vW (f:Nat->Rat) : ∀ n,DQ f (n+1)=f 0+DQ (λ j=>f (j+1)) n
 | 0=>by simp only[DQ];grind
 | n+1=>by rw[DQ,vW f n,DQ];grind
theorem Q0 : ∀ (r X:List Rat) (n:Nat),r.length<=n->A6 r X=DQ (λ j=>r.getD j 0*X.getD j 0) n
 | [],X,n,_=>by rw[TP n λ j _=>by simp];rfl
 | x::r,[],n,_=>by rw[SS,TP n λ j _=>by simp]
 | x::r,y::X,0,h=>by simp at h
 | x::r,y::X,n+1,h=>by
  rw[vW,A6,Q0 r X n (by simpa using h)];simp
def OU (m:List (List Rat)) (i j:Nat):Rat:=(m.getD i []).getD j 0
theorem PS {m:List (List Rat)} {i:Nat} {r:List Rat} (h:m[i]? = some r) (j:Nat):OU m i j=r.getD j 0:=by
 rw[OU,show m.getD i []=r by rw[List.getD_eq_getElem?_getD,h];rfl]
def SH (R:Nat->Nat->Rat) (c:Nat):Prop := ∀ i,i<c->R i i≠0 /\ ∀ j,j<i->R i j=0
theorem wN {R:Nat->Nat->Rat} {c:Nat} (h:SH R c) (f:Nat->Rat) : ∀ d,d<=c -> ∃ y:Nat->Rat,∀ i,c-d<=i->i<c->DQ (λ j=>R i j*y j) c=f i
 | 0,_=>⟨λ_=>0,λ i h1 h2=>absurd h2 (by omega)⟩
 | d+1,hd=>by
  obtain ⟨y,hy⟩:=wN h f d (by omega);obtain ⟨k,hk⟩ : ∃ k,k=c-(d+1):=⟨_,rfl⟩;have Lj:k<c:=by omega
  refine ⟨λ j=>if j=k then y k+(f k-DQ (λ j=>R k j*y j) c)/R k k else y j,λ i h1 h2 => ?_⟩;rw[vY (R i) y _ k c,if_pos Lj];by_cases e:i=k
  ·subst e
   have h0:=(h i Lj).1;have:=Rat.div_mul_cancel h0 (a:=f i-DQ (λ j=>R i j*y j) c)
   grind
  ·rw[hy i (by omega) h2,(h i h2).2 k (by omega)];grind
theorem wO {R:Nat->Nat->Rat} {c:Nat} (h:SH R c) {y:Nat->Rat} (hy : ∀ i,i<c->DQ (λ j=>R i j*y j) c=0) : ∀ d,d<=c -> ∀ j,c-d<=j->j<c->y j=0
 | 0,_=>λ j h1 h2=>absurd h2 (by omega)
 | d+1,hd=>λ j h1 h2=>by
  have ih:=wO h hy d (by omega);by_cases e:c-d<=j
  ·exact ih j e h2
  ·have h3:=hy j h2
   rw[iF c h2 λ q hq hn=>by
    by_cases e2:q<j
    ·rw[(h j h2).2 q e2,Rat.zero_mul]
    ·rw[ih q (by omega) hq,Rat.mul_zero]]at h3
   rcases Rat.mul_eq_zero.1 h3 with h4|h4
   ·exact absurd h4 (h j h2).1
   ·exact h4
theorem DF.low {m:List (List Rat)} {W c:Nat} {P:List Nat} (h:DF m W c P) : ∀ i p:Nat,P[i]? = some p->i<=p
 | 0,p,_=>Nat.zero_le p
 | i+1,p,hp=>by
  have w5:=(zS hp).1;obtain ⟨q,hq⟩ : ∃ q,P[i]? = some q:=⟨_,zE (by omega)⟩;have h1:=h.inc i (i+1) q p (by omega) hq hp;have h2:=h.low i q hq;omega
theorem DF.le {m:List (List Rat)} {W c:Nat} {P:List Nat} (h:DF m W c P):P.length<=c:=by
 cases e:P.length with
 | zero=>exact Nat.zero_le c
 | succ k =>
  obtain ⟨q,hq⟩ : ∃ q,P[k]? = some q:=⟨_,zE (by omega)⟩;have h1:=h.low k q hq;have h2:=h.pb q (zM hq);omega
theorem DF.wide {m:List (List Rat)} {W c n:Nat} {P:List Nat} (h:DF m W c P) (hP:P.length=m.length) (hn:c<=n):DF m W n P :=
 ⟨h.lr,h.pl,h.inc,λ p hp=>Nat.lt_of_lt_of_le (h.pb p hp) hn,h.nz,λ i r hi hr=>by
  have:=(zS hr).1
  omega⟩
theorem uD {m:List (List Rat)} {W i n:Nat} {r X:List Rat} (hr:m[i]? = some r) (hl:r.length=W) (hn:n<=W) (hX : ∀ j,n<=j->X.getD j 0=0):A6 r X=DQ (λ j=>OU m i j*X.getD j 0) n:=by
 obtain ⟨d,rfl⟩:=Nat.exists_eq_add_of_le hn;rw[Q0 r X (n+d) (by omega),vX d λ j hj=>by rw[hX j hj,Rat.mul_zero]];exact iE n λ j _=>by rw[PS hr]
theorem DF.Ns {m:List (List Rat)} {W n c:Nat} {P:List Nat} (h:DF m W n P) (hc : ∀ i,i<c->P[i]? = some i):SH (OU m) c:=λ i hi=>by
 have h1:=(zS (hc i hi)).1;obtain ⟨r,hr⟩ : ∃ r,m[i]? = some r:=⟨_,zE (Nat.lt_of_lt_of_le h1 h.pl)⟩;have:=h.nz i i r (hc i hi) hr
 rw[PS hr];exact ⟨this.1,λ j hj=>by rw[PS hr];exact this.2 j hj⟩
theorem DF.full {m:List (List Rat)} {W n:Nat} {P:List Nat} (h:DF m W n P) (hP:P.length=n) (hW:n<=W) {X:List Rat} (hk:E8 m X) (hX : ∀ j,n<=j->X.getD j 0=0) (j:Nat):X.getD j 0=0:=by
 have hd : ∀ i,i<n->P[i]? = some i:=λ i hi=>by
  obtain ⟨q,hq⟩ : ∃ q,P[i]? = some q:=⟨_,zE (by omega)⟩;rw[hq,h.diag hP i q hq]
 have ht:=h.Ns hd;by_cases e:j<n
 ·refine wO ht (y:=λ j=>X.getD j 0) (λ i hi => ?_) n (Nat.le_refl n) j (by omega) e
  obtain ⟨r,hr⟩ : ∃ r,m[i]? = some r:=⟨_,zE (by have:=h.pl;omega)⟩;rw[<-uD hr (h.lr r (zM hr)) hW hX];exact hk r (zM hr)
 ·exact hX j (by omega)
theorem DF.gap {m:List (List Rat)} {W n:Nat} {P:List Nat} (h:DF m W n P) : ∀ c:Nat,c<=P.length->(∀ i:Nat,i<c->P[i]? = some i) \/ ∃ k,(∀ i,i<k->P[i]? = some i) /\ ∃ p:Nat,P[k]? = some p/\k<p
 | 0,_=>Or.inl λ i hi=>absurd hi (by omega)
 | c+1,hc=>by
  rcases h.gap c (by omega) with h1|h1
  ·obtain ⟨q,hq⟩ : ∃ q,P[c]? = some q:=⟨_,zE (by omega)⟩
   have h2:=h.low c q hq;by_cases e:q=c
   ·subst e
    exact Or.inl λ i hi=>by
     by_cases e:i=q
     ·subst e;exact hq
     ·exact h1 i (by omega)
   ·exact Or.inr ⟨c,h1,q,hq,by omega⟩
  ·exact Or.inr h1
theorem RA (f:Nat->Rat) (W j:Nat):((List.range W).map f).getD j 0=if j<W then f j else 0:=by
 rw[List.getD_eq_getElem?_getD,List.getElem?_map];by_cases h:j<W
 ·rw[List.getElem?_range h,if_pos h];rfl
 ·rw[List.getElem?_eq_none (by simp;omega),if_neg h];rfl
theorem DF.less {m:List (List Rat)} {W n:Nat} {P:List Nat} (h:DF m W n P) (hP:P.length<n) (hW:n<=W) : ∃ X:List Rat,X.length=W/\E8 m X/\(∀ j,n<=j->X.getD j 0=0) /\ ∃ j,X.getD j 0≠0:=by
 obtain ⟨c,qo,hc,hz⟩ : ∃ c,c<n/\(∀ i,i<c->P[i]? = some i) /\ ∀ i r,c<=i->m[i]? = some r -> ∀ j,j<=c->r.getD j 0=0:=by
  rcases h.gap P.length (Nat.le_refl _) with h1|⟨k,h1,p,h2,h3⟩
  ·exact ⟨P.length,hP,h1,λ i r hi hr j hj=>h.zr i r hi hr j (by omega)⟩
  ·refine ⟨k,Nat.lt_trans h3 (h.pb p (zM h2)),h1,λ i r hi hr j hj => ?_⟩
   by_cases e:i<P.length
   ·obtain ⟨q,hq⟩ : ∃ q,P[i]? = some q:=⟨_,zE e⟩
    refine (h.nz i q r hq hr).2 j ?_;by_cases e2:i=k
    ·subst e2
     obtain rfl:=Option.some.inj (h2.symm.trans hq);omega
    ·have:=h.inc k i p q (by omega) h2 hq
     omega
   ·exact h.zr i r (by omega) hr j (by have:=h.pb p (zM h2);omega)
 obtain ⟨y,hy⟩:=wN (h.Ns hc) (λ i=>OU m i c) c (Nat.le_refl c);have hg : ∀ j,((List.range W).map λ j=>if j<c then y j else if j=c then (-1:Rat) else 0).getD j 0=if j<c then y j else if j=c then (-1:Rat) else 0:=λ j=>by
  rw[RA];by_cases e:j<W
  ·rw[if_pos e]
  ·rw[if_neg e,if_neg (by omega),if_neg (by omega)]
 refine ⟨(List.range W).map λ j=>if j<c then y j else if j=c then (-1:Rat) else 0,by simp,λ r hr => ?_,λ j hj => ?_,c,?_⟩
 ·obtain ⟨i,hi⟩:=List.getElem?_of_mem hr
  rw[uD hi (h.lr r hr) (show c+1<=W by omega) λ j hj=>by rw[hg,if_neg (by omega),if_neg (by omega)],DQ,hg,if_neg (Nat.lt_irrefl c),if_pos rfl];by_cases e:i<c
  ·rw[iE c (g:=λ j=>OU m i j*y j) λ j hj=>by rw[hg,if_pos hj],hy i (by omega) e];grind
  ·rw[TP c λ j hj=>by rw[PS hi,hz i r (by omega) hi j (by omega),Rat.zero_mul],PS hi,hz i r (by omega) hi c (Nat.le_refl c),Rat.zero_mul,Rat.add_zero]
 ·rw[hg,if_neg (by omega),if_neg (by omega)]
 ·rw[hg,if_neg (Nat.lt_irrefl c),if_pos rfl]
  decide
def UB (m a:List (List Rat)):Prop:=m.length=a.length /\ ∀ (i:Nat) (r:List Rat),a[i]? = some r -> ∃ s:Rat,s≠0/\m[i]? = some (r.map (· * s))
theorem UR (x:Rat) : ∀ a b:List Rat,A6 (a.map (· * x)) b=A6 a b*x
 | [],b=>by simp [A6]
 | a::l,[]=>by rw[SS,SS,Rat.zero_mul]
 | a::l,b::k=>by
  simp only[List.map_cons,A6,UR x l k];grind
theorem UB.ml {m a:List (List Rat)} (h:UB m a) (X:List Rat):E8 m X↔E8 a X:=by
 constructor
 ·intro hk r hr
  obtain ⟨i,hi⟩:=List.getElem?_of_mem hr;obtain ⟨s,hs,hm⟩:=h.2 i r hi;have:=hk _ (zM hm)
  rw[UR]at this;rcases Rat.mul_eq_zero.1 this with h|h
  ·exact h
  ·exact absurd h hs
 ·intro hk r hr
  obtain ⟨i,hi⟩:=List.getElem?_of_mem hr;obtain ⟨q,hq⟩ : ∃ q,a[i]? = some q:=⟨_,zE (by have:=(zS hi).1;have:=h.1;omega)⟩;obtain ⟨s,hs,hm⟩:=h.2 i q hq;obtain rfl:=Option.some.inj (hi.symm.trans hm);rw[UR,hk q (zM hq),Rat.zero_mul]
def DW (a b:List (List Rat)):List (List Rat):=List.zipWith (· ++ ·) a b
def NS (n:Nat) (a:List (List Rat)):Prop := ∀ X:List Rat,X.length=n->E8 a X -> ∀ j,X.getD j 0=0
theorem X1 : ∀ (u y v z:List Rat),u.length=y.length->A6 (u++v) (y++z)=A6 u y+A6 v z
 | [],[],v,z,_=>by simp [A6,Rat.zero_add]
 | x::u,w::y,v,z,h=>by
  simp only[List.cons_append,A6,X1 u y v z (by simpa using h)];grind
theorem U9 {a b:List (List Rat)} {i:Nat} {r s:List Rat} (hr:a[i]? = some r) (hs:b[i]? = some s):(DW a b)[i]? = some (r++s):=by
 simp [DW,List.getElem?_zipWith,hr,hs]
theorem dX {n:Nat} {a b:List (List Rat)} (hl:a.length=b.length) (ha : ∀ r∈a,r.length=n) (y z:List Rat) (hy:y.length=n):E8 (DW a b) (y++z) ↔ ∀ (i:Nat) (r s:List Rat),a[i]? = some r->b[i]? = some s->A6 r y+A6 s z=0:=by
 constructor
 ·intro h i r s hr hs
  rw[<-X1 r y s z (by rw[ha r (zM hr),hy])];exact h _ (zM (U9 hr hs))
 ·intro h q hq
  obtain ⟨i,hi⟩:=List.getElem?_of_mem hq;have w5:=(zS hi).1;simp only[DW,List.length_zipWith]at w5;obtain ⟨r,hr⟩ : ∃ r,a[i]? = some r:=⟨_,zE (by omega)⟩;obtain ⟨s,hs⟩ : ∃ s,b[i]? = some s:=⟨_,zE (by omega)⟩;obtain rfl:=Option.some.inj ((U9 hr hs).symm.trans hi);rw[X1 r y s z (by rw[ha r (zM hr),hy])];exact h i r s hr hs
theorem Xe {X:List Rat} (h : ∀ j,X.getD j 0=0) (r:List Rat):A6 r X=0:=by
 rw[Q0 r X r.length (Nat.le_refl _)];exact TP _ λ j _=>by rw[h,Rat.mul_zero]
theorem tU {m a b:List (List Rat)} {w n:Nat} {P:List Nat} (h:DF m (n+w) n P) (hk : ∀ X,E8 m X↔E8 (DW a b) X) (hl:a.length=b.length) (ha : ∀ r∈a,r.length=n):P.length=n↔NS n a:=by
 constructor
 ·intro hP X hX hka j
  have h1:E8 m (X++List.replicate w 0):=(hk _).2 ((dX hl ha X _ hX).2 λ i r s hr hs=>by
   rw[hka r (zM hr),mP,Rat.add_zero])
  by_cases e:j<n
  ·have h2:=h.full hP (by omega) h1 (λ j hj=>by
    rw[List.getD_eq_getElem?_getD,List.getElem?_append_right (by omega),List.getElem?_replicate];split<;>rfl) j
   rw[List.getD_eq_getElem?_getD,List.getElem?_append_left (by omega)]at h2;rw[List.getD_eq_getElem?_getD];exact h2
  ·rw[List.getD_eq_getElem?_getD,List.getElem?_eq_none (by omega)];rfl
 ·intro cn
  have h1:=h.le;rcases Nat.lt_or_ge P.length n with hP|hP
  ·exfalso
   obtain ⟨X,hX,hX1,Pb,j,hj⟩:=h.less hP (by omega);have h2:=(hk _).1 hX1;rw[<-List.take_append_drop n X]at h2;have de:(X.take n).length=n:=by simp;omega
   have h3:=(dX hl ha _ _ de).1 h2;have hz : ∀ q,(X.drop n).getD q 0=0:=λ q=>by
    have:=Pb (n+q) (by omega)
    rw[List.getD_eq_getElem?_getD]at this;rw[List.getD_eq_getElem?_getD,List.getElem?_drop];exact this
   have h4:=cn (X.take n) de (λ r hr=>by
    obtain ⟨i,hi⟩:=List.getElem?_of_mem hr;obtain ⟨s,hs⟩ : ∃ s,b[i]? = some s:=⟨_,zE (by have:=(zS hi).1;omega)⟩;have:=h3 i r s hi hs
    rw[Xe hz,Rat.add_zero]at this;exact this) j
   by_cases e:j<n
   ·rw[List.getD_eq_getElem?_getD,List.getElem?_take_of_lt e,<-List.getD_eq_getElem?_getD]at h4
    exact hj h4
   ·exact hj (Pb j (by omega))
  ·omega
def YW (w c:Nat):List Rat:=(List.range w).map λ q=>if q=c then -1 else 0
theorem mQ {r:List Rat} {w c:Nat} (hr:r.length=w) (hc:c<w):A6 r (YW w c) = - r.getD c 0:=by
 rw[Q0 r _ w (by omega),iF w hc λ j hj hn=>by rw[YW,RA,if_pos hj,if_neg hn,Rat.mul_zero],YW,RA,if_pos hc,if_pos rfl];grind
theorem lN {m a b:List (List Rat)} {w n c:Nat} {y:List Rat} (hk : ∀ X,E8 m X↔E8 (DW a b) X) (hl:a.length=b.length) (ha : ∀ r∈a,r.length=n) (hb : ∀ r∈b,r.length=w) (hc:c<w) (hy:y.length=n) (hm : ∀ r∈m,r.length=n+w) (hs : ∀ r∈m,A6 (r.take n) y=r.getD (n+c) 0) {i:Nat} {r s:List Rat} (hr:a[i]? = some r) (hi:b[i]? = some s):A6 r y=s.getD c 0:=by
 have h1:E8 m (y++YW w c):=λ q hq=>by
  have xx:=hm q hq;have e:q=q.take n++q.drop n:=(List.take_append_drop n q).symm;rw[e,X1 _ _ _ _ (by rw[List.length_take,hy];omega),hs q hq,mQ (by rw[List.length_drop];omega) hc];have:(q.drop n).getD c 0=q.getD (n+c) 0:=by rw[List.getD_eq_getElem?_getD,List.getElem?_drop,<-List.getD_eq_getElem?_getD]
  rw[this];grind
 have h2:=(dX hl ha y _ hy).1 ((hk _).1 h1) i r s hr hi;rw[mQ (hb s (zM hi)) hc]at h2;grind
theorem AhC (n i j:Nat):(PK n i).getD j 0=if j<n then (if j=i then 1 else 0) else 0:=by
 rw[PK,RA];by_cases h:j<n
 ·rw[if_pos h,if_pos h]
  by_cases e:j=i
  ·rw[if_pos e,if_pos (by omega)]
  ·rw[if_neg e,if_neg (by omega)]
 ·rw[if_neg h,if_neg h]
theorem Ahp {a:List (List Rat)} {n:Nat} (ha : ∀ r∈a,r.length=n) {X Y:List Rat} (hX:X.length=n) (hY:Y.length=n) (h:P6 a X=P6 a Y) (cn:NS n a):X=Y:=by
 have h1:=cn ((List.range n).map λ j=>X.getD j 0-Y.getD j 0) (by simp) (λ r hr=>by
  obtain ⟨i,hi⟩:=List.getElem?_of_mem hr;have e:A6 r X=A6 r Y:=by
   have:=congrArg (·[i]?) h
   simp only[P6,List.getElem?_map,hi,Option.map_some,Option.some.injEq]at this;exact this
  have hs : ∀ k,DQ (λ j=>r.getD j 0*((List.range n).map λ j=>X.getD j 0-Y.getD j 0).getD j 0) k=DQ (λ j=>r.getD j 0*X.getD j 0) k-DQ (λ j=>r.getD j 0*Y.getD j 0) k:=by
   intro k;induction k with
   | zero=>simp only[DQ];grind
   | succ k ih =>
    rw[DQ,DQ,DQ,ih,RA];by_cases e:k<n
    ·rw[if_pos e];grind
    ·rw[if_neg e,List.getD_eq_getElem?_getD,List.getD_eq_getElem?_getD,List.getD_eq_getElem?_getD,List.getElem?_eq_none (show X.length<=k by omega),List.getElem?_eq_none (show Y.length<=k by omega)]
     simp only[Option.getD_none];grind
  rw[Q0 r _ r.length (Nat.le_refl _),hs,<-Q0 r X _ (Nat.le_refl _),<-Q0 r Y _ (Nat.le_refl _),e];grind)
 refine List.ext_getElem? λ j => ?_
 by_cases e:j<n
 ·have:=h1 j
  rw[RA,if_pos e]at this;have h2:X.getD j 0=Y.getD j 0:=by grind
  rw[List.getD_eq_getElem?_getD,List.getD_eq_getElem?_getD,zE (by omega),zE (by omega)]at h2;rw[zE (by omega),zE (by omega)];exact congrArg some h2
 ·rw[List.getElem?_eq_none (by omega),List.getElem?_eq_none (by omega)]
theorem Bt.ofInt {k:Nat} {z:Int} (h:z.natAbs<=2^k):Bt k ((z:Int):Rat):=⟨by rw[Rat.num_intCast];exact h,by rw[Rat.den_intCast];exact Nat.one_le_two_pow⟩
end Go.b8
namespace Go.b8
theorem Bt.Nj {k:Nat} {y:Rat} (h:Bt k y):Bt k y⁻¹:=by
 rw[Rat.inv_def];rcases Int.natAbs_eq y.num with e|e
 ·rw[e,Rat.divInt_ofNat]
  exact Bt.mk (by simpa using h.2) h.1
 ·rw[e,Rat.divInt_neg',Rat.divInt_ofNat]
  exact Bt.mk (by simpa using h.2) h.1
theorem Bt.ik {k l:Nat} {x y:Rat} (hx:Bt k x) (hy:Bt l y):Bt (k+l) (x/y):=by
 rw[Rat.div_def];exact hx.mul hy.Nj
theorem Bt.yl {k:Nat} {x:Rat} (h:Bt k x):Bt k (-x):=⟨by rw[Rat.neg_num,Int.natAbs_neg];exact h.1,by rw[Rat.neg_den];exact h.2⟩
theorem Bt.aj {k l:Nat} {x y:Rat} (hx:Bt k x) (hy:Bt l y):Bt (k+l+1) (x-y):=by
 rw[Rat.sub_eq_add_neg];exact hx.add hy.yl
theorem Bt.Ei {k:Nat} {x p y f l:Rat} (hx:Bt k x) (hp:Bt k p) (hy:Bt k y) (hf:Bt k f) (hl:Bt k l):Bt (5*k+1) ((x*p-y*f)/l) :=
 (((hx.mul hp).aj (hy.mul hf)).ik hl).le (by omega)
theorem bE {p f l:Rat} : ∀ {r t:List Rat} {z:Rat},z∈comb p f l r t -> ∃ x∈r,∃ y∈t,z=(x*p-y*f)/l
 | [],_,z,h=>by simp [comb]at h
 | _::_,[],z,h=>by simp [comb]at h
 | x::r,y::t,z,h=>by
  simp only[comb,List.zipWith_cons_cons,List.mem_cons]at h;rcases h with h|h
  ·exact ⟨x,List.mem_cons_self,y,List.mem_cons_self,h⟩
  ·obtain ⟨a,ha,b,hb,e⟩:=bE (r:=r) (t:=t) h
   exact ⟨a,List.mem_cons_of_mem _ ha,b,List.mem_cons_of_mem _ hb,e⟩
theorem Bs.comb {k:Nat} {r t:List Rat} {p f l:Rat} (hr:Bs k r) (ht:Bs k t) (hp:Bt k p) (hf:Bt k f) (hl:Bt k l):Bs (5*k+1) (comb p f l r t):=λ z hz=>by
 obtain ⟨x,hx,y,hy,rfl⟩:=bE hz;exact Bt.Ei (hr x hx) hp (ht y hy) hf hl
theorem bC {p f l:Rat} : ∀ {r t:List Rat},r.length=t.length -> ∀ j,(comb p f l r t).getD j 0=(r.getD j 0*p-t.getD j 0*f)/l
 | [],[],_,j=>by simp [comb,Rat.div_def,Rat.zero_mul,Rat.sub_eq_add_neg,Rat.neg_zero,Rat.add_zero]
 | x::r,y::t,_,0=>by simp [comb]
 | x::r,y::t,h,j+1=>by
  have:=bC (p:=p) (f:=f) (l:=l) (r:=r) (t:=t) (by simpa using h) j
  simp only[comb]at this;simpa [comb] using this
def NP (s x:Rat):Rat:=s*(((s*x).den:Nat):Rat)
def BI (r:List Rat):Rat:=r.foldl NP 1
theorem uL (r:List Rat) (x:Rat):BI (r++[x])=NP (BI r) x:=by rw[BI,List.foldl_append];rfl
theorem AgU {s x:Rat} (h:s≠0):NP s x≠0:=by
 intro e;rcases Rat.mul_eq_zero.1 e with e|e
 ·exact h e
 ·have:=(s*x).den_pos
  have:((s*x).den:Rat)=((0:Nat):Rat):=e
  have:=Rat.natCast_inj.1 this
  omega
theorem gN (r:List Rat):BI r≠0:=by
 have : ∀ (r:List Rat) (s:Rat),s≠0->r.foldl NP s≠0:=by
  intro r;induction r with
  | nil=>intro s h;exact h
  | cons x r ih=>intro s h;exact ih _ (AgU h)
 exact this r 1 (by decide)
def whole (m:List (List Rat)):List (List Rat):=m.map λ r=>r.map (· * BI r)
theorem AhM (m:List (List Rat)):UB (whole m) m:=⟨by simp [whole],λ i r hr=>⟨BI r,gN r,by simp [whole,hr]⟩⟩
theorem AhL {m:List (List Rat)} {W:Nat} (h : ∀ r∈m,r.length=W) : ∀ r∈whole m,r.length=W:=λ r hr=>by
 obtain ⟨q,hq,rfl⟩:=List.mem_map.1 hr;simpa using h q hq
def HY:List (List Rat)->List Nat->Rat
 | r::m,p::P=>r.getD p 0*HY m P
 | _,_=>1
theorem VN : ∀ m,HY m []=1
 | []=>rfl
 | _::_=>rfl
theorem ZB : ∀ (m:List (List Rat)) (P:List Nat) (i:Nat) (x:List Rat),P.length<=i->HY (m.set i x) P=HY m P
 | [],_,_,_,_=>rfl
 | _::_,[],_,_,_=>by rw[VN,VN]
 | r::m,p::P,0,x,h=>by simp at h
 | r::m,p::P,i+1,x,h=>by
  rw[List.set_cons_succ,HY,HY,ZB m P i x (by simpa using h)]
theorem tM (c:Nat) (t:List Rat) : ∀ (m:List (List Rat)) (P:List Nat),m[P.length]? = some t->HY m (P++[c])=HY m P*t.getD c 0
 | [],_,h=>by simp at h
 | r::m,[],h=>by
  obtain rfl:r=t:=by simpa using h
  rw[List.nil_append,HY,VN,VN,Rat.mul_one,Rat.one_mul]
 | r::m,p::P,h=>by
  rw[List.cons_append,HY,HY,tM c t m P (by simpa using h),Rat.mul_assoc]
structure WM (n W:Nat) (u:Rat) (D:List (List Rat)->Rat):Prop where
 sw : ∀ (m:List (List Rat)) (i k:Nat) (a b:List Rat),m.length=n->(∀ r∈m,r.length=W)->m[i]? = some a->m[k]? = some b->i≠k->D ((m.set i b).set k a) = -D m
 ad : ∀ (m:List (List Rat)) (i k:Nat) (r t:List Rat) (p f l:Rat),m.length=n->(∀ r∈m,r.length=W)->m[i]? = some r->m[k]? = some t->i≠k->l≠0->D (m.set i (comb p f l r t))=D m*(p/l)
 sc : ∀ (m:List (List Rat)) (i:Nat) (r:List Rat) (s:Rat),m.length=n->(∀ r∈m,r.length=W)->m[i]? = some r->D (m.set i (r.map (· * s)))=D m*s
 tr : ∀ m:List (List Rat),m.length=n->(∀ r∈m,r.length=W)->SH (OU m) n->D m=HY m (List.range n)*u
def VW (b:Bool):Rat:=bif b then -1 else 1
theorem AgX (b:Bool):VW (!b) = -VW b:=by cases b<;>decide
theorem sW : ∀ n:Nat,(1:Rat)^n=1
 | 0=>Rat.pow_zero 1
 | n+1=>by rw[Rat.pow_succ,sW n,Rat.mul_one]
theorem fU {l:Rat} (h:l≠0) : ∀ n:Nat,l^n≠0
 | 0=>by rw[Rat.pow_zero];decide
 | n+1=>by
  rw[Rat.pow_succ];intro e;rcases Rat.mul_eq_zero.1 e with e|e
  ·exact fU h n e
  ·exact h e
theorem fA {a b c:Rat} (h:c≠0) (e:a*c=b*c):a=b:=by
 have h1:=Rat.mul_inv_cancel c h;have:a*c*c⁻¹=b*c*c⁻¹:=by rw[e]
 rwa [Rat.mul_assoc,Rat.mul_assoc,h1,Rat.mul_one,Rat.mul_one]at this
structure GN (m0:List (List Rat)) (K W k9:Nat) (m:List (List Rat)) (P:List Nat) (c:Nat) (odd:Bool) (l:Rat):Prop where
 o6:DF m W c P
 len:m.length=m0.length
 cc:c<=k9
 l0:l≠0
 ml : ∀ X,E8 m X↔E8 m0 X
 ms:Ms (6^P.length*K) m
 bl:Bt (6^P.length*K) l
 dt : ∀ (u:Rat) (D:List (List Rat)->Rat),WM m0.length W u D->D m*l=VW odd*D m0*HY m P*l^(m0.length-P.length)
theorem GN.start {m0:List (List Rat)} {K W k9:Nat} (h : ∀ r∈m0,r.length=W) (hb:Ms K m0):GN m0 K W k9 m0 [] 0 false 1 :=
 ⟨DF.start h,rfl,Nat.zero_le _,by decide,λ_=>Iff.rfl,by simpa using hb,Bt.one _,λ u D _=>by rw[VN,sW,Rat.mul_one,Rat.mul_one,Rat.mul_one];exact (Rat.one_mul _).symm⟩
section
variable {m0 m:List (List Rat)} {K W k9 c:Nat} {P:List Nat} {odd:Bool} {l:Rat}
theorem GN.skip (h:GN m0 K W k9 m P c odd l) (hc:c<k9) (hz : ∀ (i:Nat) (r:List Rat),P.length<=i->m[i]? = some r->r.getD c 0=0):GN m0 K W k9 m P (c+1) odd l :=
 ⟨h.o6.skip hz,h.len,hc,h.l0,h.ml,h.ms,h.bl,h.dt⟩
theorem GN.swap {i k:Nat} {a b:List Rat} (h:GN m0 K W k9 m P c odd l) (hi:m[i]? = some a) (hk:m[k]? = some b) (h1:P.length<=i) (h2:P.length<=k) (hn:i≠k):GN m0 K W k9 ((m.set i b).set k a) P c (!odd) l :=
 ⟨h.o6.swap hi hk h1 h2,by simpa using h.len,h.cc,h.l0,λ X=>(qO hi hk X).trans (h.ml X),λ r hr=>by
  rcases OD hr with rfl|⟨j,_,hj⟩
  ·exact h.ms.at hi
  ·rcases OD (zM hj) with rfl|⟨q,_,hq⟩
   ·exact h.ms.at hk
   ·exact h.ms.at hq,h.bl,λ u D hD=>by
  rw[hD.sw m i k a b h.len h.o6.lr hi hk hn,AgX,ZB _ _ _ _ h2,ZB _ _ _ _ h1,Rat.neg_mul,h.dt u D hD,Rat.neg_mul,Rat.neg_mul,Rat.neg_mul]⟩
structure OS (m0:List (List Rat)) (K W k9:Nat) (P:List Nat) (c:Nat) (odd:Bool) (l:Rat) (t:List Rat) (m:List (List Rat)) (i:Nat):Prop where
 o6:DF m W c P
 len:m.length=m0.length
 cc:c<k9
 l0:l≠0
 ml : ∀ X,E8 m X↔E8 m0 X
 ht:m[P.length]? = some t
 nt:t.getD c 0≠0
 lo : ∀ q r,q<i->m[q]? = some r->Bs (5*(6^P.length*K)+1) r
 hi : ∀ q r,i<=q->m[q]? = some r->Bs (6^P.length*K) r
 bt:Bs (6^P.length*K) t
 bl:Bt (6^P.length*K) l
 z : ∀ q r,P.length<q->q<i->m[q]? = some r->r.getD c 0=0
 dt : ∀ (u:Rat) (D:List (List Rat)->Rat),WM m0.length W u D->D m*l*l^(i-P.length-1)=VW odd*D m0*HY m P*l^(m0.length-P.length)*t.getD c 0^(i-P.length-1)
theorem GN.swp {t:List Rat} (h:GN m0 K W k9 m P c odd l) (hc:c<k9) (ht:m[P.length]? = some t) (hn:t.getD c 0≠0):OS m0 K W k9 P c odd l t m (P.length+1) :=
 ⟨h.o6,h.len,hc,h.l0,h.ml,ht,hn,λ q r _ hr=>(h.ms.at hr).le (by omega),λ q r _ hr=>h.ms.at hr,h.ms.at ht,h.bl,λ q r h1 h2 _=>absurd h1 (by omega),λ u D hD=>by
  rw[show P.length+1-P.length-1=0 by omega,Rat.pow_zero,Rat.pow_zero,Rat.mul_one,Rat.mul_one];exact h.dt u D hD⟩
theorem OS.step {t r:List Rat} {i:Nat} (h:OS m0 K W k9 P c odd l t m i) (hi:P.length<i) (hr:m[i]? = some r):OS m0 K W k9 P c odd l t (m.set i (comb (t.getD c 0) (r.getD c 0) l r t)) (i+1):=by
 have w5:=(zS hr).1;have hl:r.length=t.length:=by rw[h.o6.lr r (zM hr),h.o6.lr t (zM h.ht)]
 have hg : ∀ j,(comb (t.getD c 0) (r.getD c 0) l r t).getD j 0=(r.getD j 0*t.getD c 0-t.getD j 0*r.getD c 0)/l:=bC hl;have x8 : ∀ (q:Nat) (x:List Rat),(m.set i (comb (t.getD c 0) (r.getD c 0) l r t))[q]? = some x->(q=i/\x=comb (t.getD c 0) (r.getD c 0) l r t)\/(q≠i/\m[q]? = some x):=λ q x hx=>by
  rw[List.getElem?_set]at hx;by_cases e:i=q
  ·rw[if_pos e,if_pos w5]at hx
   exact Or.inl ⟨e.symm,(Option.some.inj hx).symm⟩
  ·rw[if_neg e]at hx
   exact Or.inr ⟨Ne.symm e,hx⟩
 have Fi:=h.hi i r (Nat.le_refl i) hr;have htc:Bt (6^P.length*K) (t.getD c 0):=by
  have:Ms (6^P.length*K) [t]:=λ x hx=>by obtain rfl:=List.mem_singleton.1 hx;exact h.bt
  exact this.getD 0 c
 have Dq:Bt (6^P.length*K) (r.getD c 0):=by
  have:Ms (6^P.length*K) [r]:=λ x hx=>by obtain rfl:=List.mem_singleton.1 hx;exact Fi
  exact this.getD 0 c
 have cj : ∀ j,j<=c->(comb (t.getD c 0) (r.getD c 0) l r t).getD j 0=0:=λ j hj=>by
  rw[hg];by_cases e:j=c
  ·subst e;rw[Rat.div_def];grind
  ·rw[h.o6.zr i r (by omega) hr j (by omega),h.o6.zr P.length t (Nat.le_refl _) h.ht j (by omega),Rat.div_def];grind
 refine ⟨⟨λ x hx => ?_,by simpa using h.o6.pl,h.o6.inc,h.o6.pb,λ q p x hp hx => ?_,λ q x hq hx j hj => ?_⟩,by simpa using h.len,h.cc,h.l0,λ X=>(qP hr h.ht (by omega) hl h.nt h.l0 X).trans (h.ml X),?_,h.nt,λ q x hq hx => ?_,λ q x hq hx => ?_,h.bt,h.bl,λ q x h1 h2 hx => ?_,λ u D hD => ?_⟩
 ·rcases OD hx with rfl|⟨j,_,hj⟩
  ·rw[bD hl];exact h.o6.lr r (zM hr)
  ·exact h.o6.lr x (zM hj)
 ·have Dp:=(zS hp).1
  rcases x8 q x hx with ⟨rfl,_⟩|⟨_,hx⟩
  ·omega
  ·exact h.o6.nz q p x hp hx
 ·rcases x8 q x hx with ⟨rfl,rfl⟩|⟨_,hx⟩
  ·exact cj j (by omega)
  ·exact h.o6.zr q x hq hx j hj
 ·rw[List.getElem?_set,if_neg (by omega)];exact h.ht
 ·rcases x8 q x hx with ⟨rfl,rfl⟩|⟨k8,hx⟩
  ·exact Fi.comb h.bt htc Dq h.bl
  ·exact h.lo q x (by omega) hx
 ·rcases x8 q x hx with ⟨rfl,rfl⟩|⟨k8,hx⟩
  ·omega
  ·exact h.hi q x (by omega) hx
 ·rcases x8 q x hx with ⟨rfl,rfl⟩|⟨k8,hx⟩
  ·exact cj c (Nat.le_refl c)
  ·exact h.z q x h1 (by omega) hx
 ·have hd:=h.dt u D hD
  have Fl:=Rat.div_mul_cancel h.l0 (a:=t.getD c 0);rw[hD.ad m i P.length r t _ _ l h.len h.o6.lr hr h.ht (by omega) h.l0,ZB _ _ _ _ (by omega),show i+1-P.length-1=(i-P.length-1)+1 by omega,Rat.pow_succ,Rat.pow_succ];rw[show D m*(t.getD c 0/l)*l*(l^(i-P.length-1)*l)=D m*l*l^(i-P.length-1)*(t.getD c 0/l*l) by grind,hd,Fl,Rat.mul_assoc]
theorem tO (hK:1<=K) (p:Nat):5*(6^p*K)+1<=6^(p+1)*K:=by
 have h1:1<=6^p*K:=Nat.mul_pos (Nat.pow_pos (by omega)) hK;have e:6^(p+1)*K=6*(6^p*K):=by rw[Nat.pow_succ,Nat.mul_comm (6^p) 6,Nat.mul_assoc]
 omega
theorem ZD {p n B:Nat} (h:6^n*K<=B) (hp:p<=n):6^p*K<=B :=
 Nat.le_trans (zR K (Nat.pow_le_pow_right (by omega) hp)) h
theorem OS.done {t:List Rat} {i:Nat} (hK:1<=K) (h:OS m0 K W k9 P c odd l t m i) (hi:i=m.length):GN m0 K W k9 m (P++[c]) (c+1) odd (t.getD c 0):=by
 have e:(P++[c]).length=P.length+1:=by simp
 have h6:=tO hK P.length;refine ⟨h.o6.qy h.ht h.nt λ q r hq hr=>h.z q r hq (hi ▸ (zS hr).1) hr,h.len,h.cc,h.nt,h.ml,?_,?_,λ u D hD => ?_⟩
 ·rw[e]
  intro r hr;obtain ⟨q,hq⟩:=List.getElem?_of_mem hr;exact (h.lo q r (hi ▸ (zS hq).1) hq).le h6
 ·rw[e]
  have:Ms (6^P.length*K) [t]:=λ x hx=>by obtain rfl:=List.mem_singleton.1 hx;exact h.bt
  exact (this.getD 0 c).le (by omega)
 ·have hd:=h.dt u D hD
  have ix:=(zS h.ht).1;have hlen:=h.len;rw[tM c t m P h.ht,e];rw[hi,hlen,show m0.length-P.length=(m0.length-P.length-1)+1 by omega,Rat.pow_succ,Nat.add_sub_cancel]at hd;rw[show m0.length-(P.length+1)=m0.length-P.length-1 by omega];have hp:=fU h.l0 (m0.length-P.length-1);generalize l^(m0.length-P.length-1)=x at *;generalize t.getD c 0=p at *;generalize p^(m0.length-P.length-1)=y at *;have h0:=h.l0;have h1:D m=VW odd*D m0*HY m P*y:=fA (c:=l*x) (λ e=>by
   rcases Rat.mul_eq_zero.1 e with e|e
   ·exact h0 e
   ·exact hp e) (by grind)
  rw[h1];grind
end
def D0 (c:Nat) (l:Rat):List (List Rat)->Nat->List Rat
 | [],_=>[]
 | r::m,i=>(r.getD c 0*l-A6 (r.drop (i+1)) (D0 c l m (i+1)))/r.getD i 0::D0 c l m (i+1)
theorem OV (c:Nat) (l:Rat) : ∀ (m:List (List Rat)) (i:Nat),(D0 c l m i).length=m.length
 | [],_=>rfl
 | r::m,i=>by rw[D0,List.length_cons,OV c l m (i+1),List.length_cons]
theorem Xk (r:List Rat) (i:Nat) (h:i<r.length):r.drop i=r.getD i 0::r.drop (i+1):=by
 rw[List.drop_eq_getElem_cons h,List.getD_eq_getElem?_getD,zE h];rfl
theorem kP (c:Nat) (l:Rat) : ∀ (m:List (List Rat)) (i k:Nat) (r:List Rat),m[k]? = some r->i+k<r.length->r.getD (i+k) 0≠0->A6 (r.drop (i+k)) ((D0 c l m i).drop k)=r.getD c 0*l
 | q::m,i,0,r,h,hl,h0=>by
  obtain rfl:q=r:=by simpa using h
  rw[Nat.add_zero]at hl h0 ⊢;rw[Xk q i hl,D0,List.drop_zero,A6];have:=Rat.div_mul_cancel h0 (a:=q.getD c 0*l-A6 (q.drop (i+1)) (D0 c l m (i+1)))
  grind
 | q::m,i,k+1,r,h,hl,h0=>by
  rw[D0,List.drop_succ_cons,show i+(k+1)=i+1+k by omega];exact kP c l m (i+1) k r (by simpa using h) (by omega) (by rw[show i+1+k=i+(k+1) by omega];exact h0)
 | [],_,_,_,h,_,_=>by simp at h
theorem mM : ∀ (i:Nat) (r x:List Rat),(∀ j,j<i->r.getD j 0=0)->A6 r x=A6 (r.drop i) (x.drop i)
 | 0,_,_,_=>rfl
 | i+1,[],x,_=>by simp [A6]
 | i+1,r::rs,[],_=>by rw[SS,List.drop_nil,SS]
 | i+1,r::rs,x::xs,h=>by
  have h0:r=0:=by simpa using h 0 (by omega)
  rw[A6,h0,Rat.zero_mul,Rat.zero_add,List.drop_succ_cons,List.drop_succ_cons];exact mM i rs xs λ j hj=>by simpa using h (j+1) (by omega)
theorem Ru {c n:Nat} {l:Rat} {m:List (List Rat)} (hn : ∀ r∈m,n<=r.length) (hm:m.length=n) (ht:SH (OU m) n) (r:List Rat) (hr:r∈m):A6 r (D0 c l m 0)=r.getD c 0*l:=by
 obtain ⟨k,hk⟩:=List.getElem?_of_mem hr;have od:=(zS hk).1;have h1:=ht k (by omega);have h2:=kP c l m 0 k r hk (by have:=hn r hr;omega) (by rw[Nat.zero_add,<-PS hk];exact h1.1);rw[mM k r _ λ j hj=>by rw[<-PS hk];exact h1.2 j hj,<-h2,Nat.zero_add]
theorem Xf {k l:Nat} {a b:List Rat} (ha:Bs k a) (hb:Bs l b) {n:Nat} (hn:b.length<=n):Bt (n*(k+l+1)) (A6 a b):=by
 rw[KR];exact (hb.dot ha).le (Nat.le_trans (zR _ hn) (Nat.le_of_eq (by rw[Nat.add_comm l k])))
end Go.b8

namespace Go.b8
def BF:List Rat->Rat->Rat
 | [],_=>0
 | c::p,x=>c+x*BF p x
def NW (r:Rat):List Rat->List Rat
 | []=>[]
 | _::p=>List.zipWith (· + ·) p ((NW r p).map (r * ·)++[0])
theorem iI (r:Rat) : ∀ c:List Rat,(NW r c).length=c.length-1
 | []=>rfl
 | _::p=>by
  rw[NW,List.length_zipWith,List.length_append,List.length_map,iI r p,List.length_singleton,List.length_cons];omega
theorem nI : ∀ (a b:List Rat) (x:Rat),a.length=b.length->BF (List.zipWith (· + ·) a b) x=BF a x+BF b x
 | [],[],x,_=>by simp only[List.zipWith_nil_right,BF];grind
 | u::a,v::b,x,h=>by
  simp only[List.zipWith_cons_cons,BF,nI a b x (by simpa using h)];grind
theorem nL (r x:Rat) : ∀ p:List Rat,BF (p.map (r * ·)) x=r*BF p x
 | []=>by simp only[List.map_nil,BF];grind
 | c::p=>by simp only[List.map_cons,BF,nL r x p];grind
theorem nO (x:Rat) : ∀ p:List Rat,BF (p++[0]) x=BF p x
 | []=>by simp only[List.nil_append,BF];grind
 | c::p=>by simp only[List.cons_append,BF,nO x p]
theorem cH {p:List Rat} (h : ∀ z∈p,z=0) (x:Rat):BF p x=0:=by
 induction p with
 | nil=>rfl
 | cons c p ih=>rw[BF,ih λ z hz=>h z (List.mem_cons_of_mem _ hz),h c List.mem_cons_self];grind
theorem iH (r x:Rat) : ∀ c:List Rat,BF c x-BF c r=(x-r)*BF (NW r c) x
 | []=>by simp only[NW,BF];grind
 | c::[]=>by simp only[NW,BF,List.zipWith_nil_left];grind
 | c::d::p=>by
  have ih:=iH r x (d::p);have hl:(d::p).length=((NW r (d::p)).map (r * ·)++[0]).length:=by
   rw[List.length_append,List.length_map,iI,List.length_singleton,List.length_cons];omega
  have e1 : ∀ x,BF (c::d::p) x=c+x*BF (d::p) x:=λ_=>rfl
  rw[NW,nI _ _ _ hl,nO,nL,e1,e1];generalize BF (d::p) x=u at *;generalize BF (d::p) r=v at *;generalize BF (NW r (d::p)) x=s at *;grind
theorem gH : ∀ (n:Nat) (c:List Rat),c.length=n -> ∀ X:List Rat,X.Pairwise (· ≠ ·)->n<=X.length->(∀ x∈X,BF c x=0) -> ∀ z∈c,z=0
 | 0,c,hc,_,_,_,_=>by
  rw[List.length_eq_zero_iff.1 hc];intro z hz;cases hz
 | n+1,[],hc,_,_,_,_=>by simp at hc
 | n+1,c::p,hc,[],_,hl,_=>by simp at hl
 | n+1,c::p,hc,r::X,hX,hl,h=>by
  have hp:p.length=n:=by simpa using hc
  rw[List.pairwise_cons]at hX;have hr:=h r List.mem_cons_self;have hq : ∀ z∈NW r (c::p),z=0:=by
   refine gH n _ (by rw[iI];exact hp) X hX.2 (by simpa using hl) λ x hx => ?_
   have e:=iH r x (c::p);rw[h x (List.mem_cons_of_mem _ hx),hr]at e;have h0:(x-r)*BF (NW r (c::p)) x=0:=by grind
   rcases Rat.mul_eq_zero.1 h0 with h1|h1
   ·exact absurd (show r=x by grind) (hX.1 x hx)
   ·exact h1
  have rh : ∀ x,BF (c::p) x=0:=λ x=>by
   have e:=iH r x (c::p);rw[cH hq,hr]at e;grind
  have bh:c=0:=by
   have:=rh 0
   rw[BF]at this;grind
  have hpz : ∀ z∈p,z=0:=by
   refine gH n p hp ((List.range n).map λ i:Nat=>(((i:Nat)+1:Nat):Rat)) ?_ (by simp) λ x hx => ?_
   ·rw[List.pairwise_map]
    refine List.Pairwise.imp ?_ List.nodup_range;intro i j qt e;have:=Rat.natCast_inj.1 e
    omega
   ·obtain ⟨i,_,rfl⟩:=List.mem_map.1 hx
    have e:=rh (((i+1:Nat)):Rat);rw[BF,bh,Rat.zero_add]at e;rcases Rat.mul_eq_zero.1 e with h1|h1
    ·have:(((i+1:Nat)):Rat)=((0:Nat):Rat):=h1
     have:=Rat.natCast_inj.1 this
     omega
    ·exact h1
  intro z hz;rcases List.mem_cons.1 hz with rfl|hz
  ·exact bh
  ·exact hpz z hz
structure Pt where
 x:Rat
 y:Rat
 w:Rat
def BO (g:List Pt) (f:Pt->Rat):Rat:=g.foldl (λ s p=>s+f p) 0
theorem iG (f:Pt->Rat) : ∀ (g:List Pt) (s:Rat),g.foldl (λ s p=>s+f p) s=s+BO g f
 | [],s=>by simp only[BO,List.foldl_nil];grind
 | p::g,s=>by
  have h1:=iG f g (s+f p);have h2:=iG f g (0+f p);simp only[BO,List.foldl_cons]at h1 h2 ⊢;rw[h1,h2];grind
theorem GL (p:Pt) (g:List Pt) (f:Pt->Rat):BO (p::g) f=f p+BO g f:=by
 have:=iG f g (0+f p)
 simp only[BO,List.foldl_cons]at this ⊢;rw[this];grind
theorem QG (p:Pt) (g:List Pt) (f:Pt->Rat):BO (g++[p]) f=BO g f+f p:=by rw[BO,List.foldl_append];rfl
theorem PJ {g:List Pt} {f h:Pt->Rat} (e : ∀ p∈g,f p=h p):BO g f=BO g h:=by
 induction g with
 | nil=>rfl
 | cons p g ih=>rw[GL,GL,e p List.mem_cons_self,ih λ q hq=>e q (List.mem_cons_of_mem _ hq)]
theorem V4 (f h:Pt->Rat) : ∀ g:List Pt,BO g (λ p=>f p+h p)=BO g f+BO g h
 | []=>by simp only[BO,List.foldl_nil];grind
 | p::g=>by rw[GL,GL,GL,V4 f h g];grind
theorem TQ (r:Rat) (f:Pt->Rat) : ∀ g:List Pt,BO g (λ p=>r*f p)=r*BO g f
 | []=>by simp only[BO,List.foldl_nil];grind
 | p::g=>by rw[GL,GL,TQ r f g];grind
theorem wC (g:List Pt):BO g (λ_=>0)=0:=by
 induction g with
 | nil=>rfl
 | cons p g ih=>rw[GL,ih];grind
theorem Ahg (x:Rat):0<=x*x:=by
 rcases Rat.le_total (a:=0) (b:=x) with h|h
 ·exact Rat.mul_nonneg h h
 ·have:=Rat.mul_nonneg (show 0 <= -x by grind) (show 0 <= -x by grind)
  grind
theorem wA {f:Pt->Rat} : ∀ {g:List Pt},(∀ p∈g,0<=f p)->0<=BO g f
 | [],_=>by simp only[BO,List.foldl_nil];grind
 | p::g,h=>by
  rw[GL];have h1:=h p List.mem_cons_self;have h2:=wA (g:=g) λ q hq=>h q (List.mem_cons_of_mem _ hq)
  grind
theorem wB {f:Pt->Rat} : ∀ {g:List Pt},(∀ p∈g,0<=f p)->BO g f=0 -> ∀ p∈g,f p=0
 | [],_,_,p,hp=>by cases hp
 | q::g,h,h0,p,hp=>by
  rw[GL]at h0;have h1:=h q List.mem_cons_self;have h2:=wA (g:=g) λ q hq=>h q (List.mem_cons_of_mem _ hq)
  rcases List.mem_cons.1 hp with rfl|hp
  ·grind
  ·exact wB (λ q hq=>h q (List.mem_cons_of_mem _ hq)) (by grind) p hp
def bz (g:List Pt) (k:Nat):Rat:=BO g λ p=>p.w*p.x^k
def rhs (g:List Pt) (k:Nat):Rat:=BO g λ p=>p.w*p.x^k*p.y
def GR (g:List Pt) (n:Nat):List (List Rat):=(List.range n).map λ i=>(List.range n).map λ j=>bz g (i+j)
def GT (g:List Pt) (n:Nat):List Rat:=(List.range n).map (rhs g)
theorem dK (g:List Pt) (n:Nat):(GR g n).length=n:=by simp [GR]
theorem pT (g:List Pt) (n:Nat) : ∀ r∈GR g n,r.length=n:=λ r hr=>by
 obtain ⟨i,_,rfl⟩:=List.mem_map.1 hr;simp
theorem rW (g:List Pt) : ∀ (c:List Rat) (i:Nat),A6 ((List.range' i c.length).map λ j=>bz g j) c=BO g λ p=>p.w*p.x^i*BF c p.x
 | [],i=>by
  rw[PJ (h:=λ_=>0) λ p _=>by simp only[BF];grind,wC];rfl
 | z::c,i=>by
  simp only[List.length_cons,List.range'_succ,List.map_cons,A6];rw[rW g c (i+1),bz,Rat.mul_comm,<-TQ,<-V4];refine PJ λ p _ => ?_
  rw[BF,Rat.pow_succ];grind
theorem rV (g:List Pt) (c:List Rat) {n:Nat} (hc:c.length=n) (i:Nat):A6 ((List.range n).map λ j=>bz g (i+j)) c=BO g λ p=>p.w*p.x^i*BF c p.x:=by
 subst hc;have e:List.range' i c.length=(List.range c.length).map (i + ·):=by rw[List.range_eq_range',List.map_add_range',Nat.add_zero]
 rw[<-rW g c i,e,List.map_map];rfl
def KF (g:List Pt) (n:Nat) (c:List Rat):Prop := ∀ k,k<n->BO g (λ p=>p.w*p.x^k*(BF c p.x-p.y))=0
theorem tF {g:List Pt} {n:Nat} {c:List Rat} (hc:c.length=n) (h : ∀ (i:Nat) (r:List Rat) (s:Rat),(GR g n)[i]? = some r->(GT g n)[i]? = some s->A6 r c=s):KF g n c:=λ k hk=>by
 have h1:=h k ((List.range n).map λ j=>bz g (k+j)) (rhs g k) (by simp [GR,hk]) (by simp [GT,hk]);rw[rV g c hc,rhs]at h1;rw[PJ (h:=λ p=>p.w*p.x^k*BF c p.x+(-1)*(p.w*p.x^k*p.y)) λ p _=>by grind,V4,TQ,h1];grind
theorem fS {g:List Pt} (e:Pt->Rat) : ∀ (q:List Rat) (i n:Nat),(∀ k,k<n->BO g (λ p=>p.w*p.x^k*e p)=0)->i+q.length<=n->BO g (λ p=>p.w*p.x^i*e p*BF q p.x)=0
 | [],i,n,_,_=>by
  rw[PJ (h:=λ_=>0) λ p _=>by simp only[BF];grind,wC]
 | z::q,i,n,h,hl=>by
  rw[List.length_cons]at hl;rw[PJ (h:=λ p=>z*(p.w*p.x^i*e p)+p.w*p.x^(i+1)*e p*BF q p.x) λ p _=>by rw[BF,Rat.pow_succ];grind,V4,TQ,h i (by omega),fS e q (i+1) n h (by omega)];grind
structure SD (g:List Pt):Prop where
 ne:(g.map (·.x)).Pairwise (· ≠ ·)
 pos : ∀ p∈g,0<p.w
theorem pU {g:List Pt} (hg:SD g) {c:List Rat} (hl:c.length<=g.length) (h:BO g (λ p=>p.w*(BF c p.x*BF c p.x))=0) : ∀ z∈c,z=0:=by
 have hz:=wB (λ p hp=>Rat.mul_nonneg (Rat.le_of_lt (hg.pos p hp)) (Ahg _)) h;refine gH c.length c rfl (g.map (·.x)) hg.ne (by simpa using hl) λ x hx => ?_
 obtain ⟨p,hp,rfl⟩:=List.mem_map.1 hx;have h1:=hz p hp;have hw:=hg.pos p hp;rcases Rat.mul_eq_zero.1 h1 with h2|h2
 ·rw[h2]at hw;exact absurd hw (by decide)
 ·rcases Rat.mul_eq_zero.1 h2 with h3|h3<;>exact h3
theorem pS {g:List Pt} {n:Nat} (hg:SD g) (hn:n<=g.length):NS n (GR g n):=λ X hX hk=>by
 have h0 : ∀ k,k<n->BO g (λ p=>p.w*p.x^k*BF X p.x)=0:=λ k ig=>by
  rw[<-rV g X hX k];exact hk _ (List.mem_map.2 ⟨k,List.mem_range.2 ig,rfl⟩)
 have h1:=fS (g:=g) (λ p=>BF X p.x) X 0 n h0 (by omega);have h2:=pU hg (c:=X) (by omega) (by
  rw[<-h1];exact PJ λ p _=>by rw[Rat.pow_zero];grind)
 intro j;rw[List.getD_eq_getElem?_getD];cases hj:X[j]? with
 | none=>rfl
 | some z=>exact h2 z (zM hj)
def EV (g:List Pt) (c:List Rat):Rat:=BO g λ p=>p.w*((BF c p.x-p.y)*(BF c p.x-p.y))
def Wh (k:Nat) (x:Rat):Prop := ∃ z:Int,x=(z:Rat)/\z.natAbs<=2^k
theorem Wh.le {k l:Nat} {x:Rat} (h:Wh k x) (hl:k<=l):Wh l x:=by
 obtain ⟨z,e,b⟩:=h;exact ⟨z,e,Nat.le_trans b (Nat.pow_le_pow_right (by omega) hl)⟩
theorem Wh.mul {k l:Nat} {x y:Rat} (hx:Wh k x) (hy:Wh l y):Wh (k+l) (x*y):=by
 obtain ⟨z,rfl,b⟩:=hx;obtain ⟨u,rfl,c⟩:=hy;exact ⟨z*u,by rw[Rat.intCast_mul],by rw[Int.natAbs_mul,Nat.pow_add];exact Nat.mul_le_mul b c⟩
theorem Wh.add {k:Nat} {x y:Rat} (hx:Wh k x) (hy:Wh k y):Wh (k+1) (x+y):=by
 obtain ⟨z,rfl,b⟩:=hx;obtain ⟨u,rfl,c⟩:=hy;refine ⟨z+u,by rw[Rat.intCast_add],?_⟩;rw[Nat.pow_succ];have:=Int.natAbs_add_le z u
 omega
theorem Wh.neg {k:Nat} {x:Rat} (hx:Wh k x):Wh k (-x):=by
 obtain ⟨z,rfl,b⟩:=hx;exact ⟨-z,by rw[Rat.intCast_neg],by rw[Int.natAbs_neg];exact b⟩
theorem Wh.sub {k:Nat} {x y:Rat} (hx:Wh k x) (hy:Wh k y):Wh (k+1) (x-y):=by
 rw[Rat.sub_eq_add_neg];exact hx.add hy.neg
theorem Wh.zero (k:Nat):Wh k 0:=⟨0,rfl,Nat.zero_le _⟩
theorem Wh.one (k:Nat):Wh k 1:=⟨1,rfl,Nat.one_le_two_pow⟩
theorem Wh.bt {k:Nat} {x:Rat} (h:Wh k x):Bt k x:=by
 obtain ⟨z,rfl,b⟩:=h;exact Bt.ofInt b
theorem Wh.pow {k:Nat} {x:Rat} (h:Wh k x) : ∀ n:Nat,Wh (n*k) (x^n)
 | 0=>by rw[Rat.pow_zero];exact Wh.one _
 | n+1=>by rw[Rat.pow_succ,Nat.succ_mul];exact (Wh.pow h n).mul h
theorem Wh.dot {k l:Nat} : ∀ {a b:List Rat},(∀ x∈a,Wh k x)->(∀ x∈b,Wh l x)->Wh (k+l+a.length) (A6 a b)
 | [],b,_,_=>by cases b<;>exact Wh.zero _
 | x::a,[],_,_=>Wh.zero _
 | x::a,y::b,ha,hb=>by
  rw[A6,List.length_cons,<-Nat.add_assoc];exact (((ha x List.mem_cons_self).mul (hb y List.mem_cons_self)).le (by omega)).add (Wh.dot (λ z hz=>ha z (List.mem_cons_of_mem _ hz)) λ z hz=>hb z (List.mem_cons_of_mem _ hz))
theorem VD (y:Rat):y*(y.den:Rat)=(y.num:Rat):=by
 have h:=Rat.num_divInt_den y;rw[Rat.divInt_eq_div]at h;have h0:((y.den:Int):Rat)≠0:=λ e=>by
  have:((y.den:Int):Rat)=((0:Int):Rat):=e
  have:=Rat.intCast_inj.1 this
  have:=y.den_pos
  omega
 have h2:=Rat.div_mul_cancel h0 (a:=(y.num:Rat));rw[h,Rat.intCast_natCast]at h2;exact h2
theorem lY {y:Rat} {T:Nat} {z:Int} (h:(T:Rat)*y=(z:Rat)):y.den ∣ T:=by
 have h1:y*(y.den:Rat)=(y.num:Rat):=VD y;have h2:(((T:Int)*y.num:Int):Rat)=((z*(y.den:Int):Int):Rat):=by
  rw[Rat.intCast_mul,Rat.intCast_mul,<-h1,<-h,Rat.intCast_natCast,Rat.intCast_natCast,Rat.mul_assoc]
 have h3:=Rat.intCast_inj.1 h2;have h4:(y.den:Int) ∣ (T:Int)*y.num:=⟨z,by rw[h3,Int.mul_comm]⟩;have h5:y.den ∣ T*y.num.natAbs:=by
  have:=Int.natAbs_dvd_natAbs.2 h4
  simpa [Int.natAbs_mul] using this
 exact Nat.Coprime.dvd_of_dvd_mul_right (Nat.Coprime.symm y.reduced) h5
theorem AgS {S M:Nat} {x:Rat} (hS:S ∣ M) (hM : ∃ z:Int,(M:Rat)*x=(z:Rat)) : ∃ S':Nat,NP (S:Rat) x=(S':Rat)/\S' ∣ M/\S ∣ S' /\ ∃ z:Int,(S':Rat)*x=(z:Rat):=by
 obtain ⟨T,rfl⟩:=hS;obtain ⟨z,hz⟩:=hM;have h1:((S:Rat)*x).den ∣ T:=lY (z:=z) (by rw[<-hz,Rat.natCast_mul];grind);have h2:((S:Rat)*x)*((((S:Rat)*x).den:Nat):Rat)=(((S:Rat)*x).num:Rat):=VD _;generalize ((S:Rat)*x).num=u at h2;refine ⟨S*((S:Rat)*x).den,?_,Nat.mul_dvd_mul_left S h1,Nat.dvd_mul_right _ _,u,?_⟩
 ·rw[NP,Rat.natCast_mul]
 ·rw[Rat.natCast_mul];grind
theorem uJ {M:Nat} : ∀ (l:List Rat) (S:Nat),S ∣ M->(∀ x∈l,∃ z:Int,(M:Rat)*x=(z:Rat)) -> ∃ S':Nat,l.foldl NP (S:Rat)=(S':Rat)/\S' ∣ M/\S ∣ S' /\ ∀ x∈l,∃ z:Int,(S':Rat)*x=(z:Rat)
 | [],S,hS,_=>⟨S,rfl,hS,Nat.dvd_refl S,λ x hx=>by cases hx⟩
 | x::l,S,hS,h=>by
  obtain ⟨S1,e1,d1,d2,z,hz⟩:=AgS hS (h x List.mem_cons_self);obtain ⟨S2,e2,d3,d4,h2⟩:=uJ l S1 d1 λ y hy=>h y (List.mem_cons_of_mem _ hy)
  refine ⟨S2,by rw[List.foldl_cons,e1,e2],d3,Nat.dvd_trans d2 d4,λ y hy => ?_⟩;rcases List.mem_cons.1 hy with rfl|hy
  ·obtain ⟨k,rfl⟩:=d4
   exact ⟨z*(k:Int),by rw[Rat.natCast_mul,Rat.intCast_mul,<-hz,Rat.intCast_natCast];grind⟩
  ·exact h2 y hy
theorem uM {M:Nat} {l:List Rat} (h : ∀ x∈l,∃ z:Int,(M:Rat)*x=(z:Rat)) : ∃ S:Nat,BI l=(S:Rat)/\S ∣ M /\ ∀ x∈l,∃ z:Int,x*BI l=(z:Rat):=by
 obtain ⟨S,e,d,_,h2⟩:=uJ l 1 (Nat.one_dvd M) h;refine ⟨S,e,d,λ x hx => ?_⟩;obtain ⟨z,hz⟩:=h2 x hx;exact ⟨z,by rw[Rat.mul_comm,<-hz];congr 1⟩
def KI:Nat->Nat->Nat
 | 0,_=>0
 | n+1,k=>KI n (2*k+1)+k+n+1
theorem qG : ∀ (n k:Nat) (l:List (List Rat × Rat)),l.length=n->(∀ p∈l,p.1.length=n/\(∀ x∈p.1,Wh k x)/\Wh k p.2)->(∀ X:List Rat,X.length=n->(∀ p∈l,A6 p.1 X=0) -> ∀ z∈X,z=0) ->
  ∃ (N:Rat) (v:List Rat),N≠0/\Wh (KI n k) N/\v.length=n/\(∀ x∈v,Wh (KI n k) x) /\ ∀ p∈l,A6 p.1 v=N*p.2
 | 0,k,l,hl,_,_=>⟨1,[],by decide,Wh.one _,rfl,(λ x hx=>by cases hx),(λ p hp=>by rw[List.length_eq_zero_iff.1 hl]at hp;cases hp)⟩
 | n+1,k,l,hl,hb,cn=>by
  have iz : ∀ p∈l,∃ (a:Rat) (t:List Rat),p.1=a::t/\t.length=n/\Wh k a/\(∀ x∈t,Wh k x):=λ p hp=>by
   obtain ⟨h1,h2,_⟩:=hb p hp;obtain ⟨p1,p2⟩:=p;cases p1 with
   | nil=>simp at h1
   | cons a t=>exact ⟨a,t,rfl,by simpa using h1,h2 a List.mem_cons_self,λ x hx=>h2 x (List.mem_cons_of_mem _ hx)⟩
  obtain ⟨p,hp,cq⟩ : ∃ p∈l,p.1.headD 0≠0:=Classical.byContradiction λ Gf=>by
   have:=cn (1::List.replicate n 0) (by simp) (λ p hp=>by
    obtain ⟨a,t,e,ht,_,_⟩:=iz p hp;have ha:a=0:=Classical.byContradiction λ h=>Gf ⟨p,hp,by rw[e];exact h⟩
    rw[e,A6,mP,ha];grind) 1 List.mem_cons_self
   exact absurd this (by decide)
  obtain ⟨l1,l2,rfl⟩:=List.append_of_mem hp;obtain ⟨a,t,ep,ht,x8,Il⟩:=iz p hp;have Bf:a≠0:=by rw[ep]at cq;exact cq
  have xv:=(hb p hp).2.2;have se : ∀ q,q∈l1++l2->q∈l1++p::l2:=λ q hq=>by
   rcases List.mem_append.1 hq with h|h
   ·exact List.mem_append_left _ h
   ·exact List.mem_append_right _ (List.mem_cons_of_mem _ h)
  have zl : ∀ q,q∈l1++p::l2->q=p\/q∈l1++l2:=λ q hq=>by
   rcases List.mem_append.1 hq with h|h
   ·exact Or.inr (List.mem_append_left _ h)
   ·rcases List.mem_cons.1 h with h|h
    ·exact Or.inl h
    ·exact Or.inr (List.mem_append_right _ h)
  obtain ⟨N,v,n1,n2,n3,n4,n5⟩:=qG n (2*k+1) ((l1++l2).map λ q=>(comb a (q.1.headD 0) 1 q.1.tail t,a*q.2-q.1.headD 0*p.2)) (by
   rw[List.length_map,List.length_append];rw[List.length_append,List.length_cons]at hl;omega) (λ q' zu=>by
    obtain ⟨q,hq,rfl⟩:=List.mem_map.1 zu;obtain ⟨c,s,eq,hs,hc,ye⟩:=iz q (se q hq);have vb:=(hb q (se q hq)).2.2;simp only[eq,List.headD_cons,List.tail_cons];refine ⟨by rw[bD (by omega)];exact hs,λ x hx => ?_,?_⟩
    ·obtain ⟨y,hy,w,hw,rfl⟩:=bE hx
     rw[show (y*a-w*c)/1=y*a-w*c by rw[Rat.div_def];grind];exact ((((ye y hy).mul x8).sub ((Il w hw).mul hc))).le (by omega)
    ·exact (((x8.mul vb).sub (hc.mul xv))).le (by omega)) (λ X hX hk=>by
    have hz:=cn (-(A6 t X)/a::X) (by rw[List.length_cons,hX]) (λ q hq=>by
     have oc:=Rat.div_mul_cancel Bf (a := -(A6 t X));rcases zl q hq with rfl|wk
     ·rw[ep,A6];grind
     ·obtain ⟨c,s,eq,hs,_,_⟩:=iz q hq
      have h1:=hk _ (List.mem_map.2 ⟨q,wk,rfl⟩);simp only[eq,List.headD_cons,List.tail_cons]at h1;rw[XP a c 1 s t X (by omega),show (a*A6 s X-c*A6 t X)/1=a*A6 s X-c*A6 t X by rw[Rat.div_def];grind]at h1;rw[eq,A6];generalize -(A6 t X)/a=u at *;generalize A6 t X=w at *;generalize A6 s X=y at *;have h2:a*(c*u+y)=0:=by grind
      rcases Rat.mul_eq_zero.1 h2 with h|h
      ·exact absurd h Bf
      ·exact h)
    intro z nu;exact hz z (List.mem_cons_of_mem _ nu))
  refine ⟨a*N,(N*p.2-A6 t v)::v.map (a * ·),?_,?_,by rw[List.length_cons,List.length_map,n3],λ x hx => ?_,λ q hq => ?_⟩
  ·intro e
   rcases Rat.mul_eq_zero.1 e with e|e
   ·exact Bf e
   ·exact n1 e
  ·exact (x8.mul n2).le (by rw[KI];omega)
  ·rcases List.mem_cons.1 hx with rfl|hx
   ·refine (((n2.mul xv).le (show KI n (2*k+1)+k<=KI n (2*k+1)+k+n by omega)).sub ((Wh.dot Il n4).le (by omega))).le (by rw[KI];omega)
   ·obtain ⟨y,hy,rfl⟩:=List.mem_map.1 hx
    exact (x8.mul (n4 y hy)).le (by rw[KI];omega)
  ·have hm : ∀ s:List Rat,A6 s (v.map (a * ·))=a*A6 s v:=λ s=>by rw[KR,mN,KR]
   rcases zl q hq with rfl|wk
   ·rw[ep,A6,hm];grind
   ·obtain ⟨c,s,eq,hs,_,_⟩:=iz q hq
    have h1:=n5 _ (List.mem_map.2 ⟨q,wk,rfl⟩);simp only[eq,List.headD_cons,List.tail_cons]at h1;rw[XP a c 1 s t v (by omega),show (a*A6 s v-c*A6 t v)/1=a*A6 s v-c*A6 t v by rw[Rat.div_def];grind]at h1;rw[eq,A6,hm];grind
theorem Ahc {n k:Nat} {a:List (List Rat)} {b c:List Rat} (lq:a.length=n) (im : ∀ r∈a,r.length=n) (jg:b.length=n) (ha : ∀ r∈a,∀ x∈r,Wh k x) (hb : ∀ x∈b,Wh k x) (cn:NS n a) (hc:c.length=n) (h : ∀ (i:Nat) (r:List Rat) (s:Rat),a[i]? = some r->b[i]? = some s->A6 r c=s):Bs (2*KI n k) c:=by
 obtain ⟨N,v,n1,n2,n3,n4,n5⟩:=qG n k (a.zip b) (by rw[List.length_zip];omega) (λ p hp=>by
  obtain ⟨h1,h2⟩:=List.of_mem_zip (a:=p.1) (b:=p.2) hp;exact ⟨im _ h1,ha _ h1,hb _ h2⟩) (λ X hX hk=>by
  have hz:=cn X hX λ r hr=>by
   obtain ⟨i,hi⟩:=List.getElem?_of_mem hr;obtain ⟨s,hs⟩ : ∃ s,b[i]? = some s:=⟨_,zE (by have:=(zS hi).1;omega)⟩;exact hk (r,s) (zM (i:=i) (by rw[List.getElem?_zip_eq_some];exact ⟨hi,hs⟩))
  intro z nu;obtain ⟨j,hj⟩:=List.getElem?_of_mem nu;have:=hz j
  rw[List.getD_eq_getElem?_getD,hj]at this;exact this)
 have hNi:=Rat.mul_inv_cancel N n1;have e:c=v.map (· * N⁻¹):=Ahp im hc (by rw[List.length_map];exact n3) (by
  refine List.ext_getElem? λ i => ?_
  simp only[P6,List.getElem?_map];cases hi:a[i]? with
  | none=>rfl
  | some r =>
   obtain ⟨s,hs⟩ : ∃ s,b[i]? = some s:=⟨_,zE (by have:=(zS hi).1;omega)⟩;have h5:=n5 (r,s) (zM (i:=i) (by rw[List.getElem?_zip_eq_some];exact ⟨hi,hs⟩));rw[Option.map_some,Option.map_some,h i r s hi hs,KR,UR,KR,h5];congr 1;grind) cn
 rw[e];intro x hx;obtain ⟨y,hy,rfl⟩:=List.mem_map.1 hx;rw[<-Rat.div_def];exact ((n4 y hy).bt.ik n2.bt).le (by omega)
theorem dY {α:Type} {l:List α} (h:l.length=1) : ∃ a,l=[a]:=by
 rcases l with _|⟨a,_|⟨b,l⟩⟩<;>simp at h
 exact ⟨a,rfl⟩
theorem Afm {α:Type} {l:List α} (h:l.length=2) : ∃ a b,l=[a,b]:=by
 obtain ⟨a,r,rfl⟩ : ∃ a r,l=a::r:=by
  cases l with
  | nil=>simp at h
  | cons a r=>exact ⟨a,r,rfl⟩
 obtain ⟨b,rfl⟩:=dY (l:=r) (by simpa using h);exact ⟨_,_,rfl⟩
theorem qU {α:Type} {l:List α} (h:l.length=3) : ∃ a b c,l=[a,b,c]:=by
 obtain ⟨a,r,rfl⟩ : ∃ a r,l=a::r:=by
  cases l with
  | nil=>simp at h
  | cons a r=>exact ⟨a,r,rfl⟩
 obtain ⟨b,c,rfl⟩:=Afm (l:=r) (by simpa using h);exact ⟨_,_,_,rfl⟩
def qh (f:Rat) (r t:List Rat):List Rat:=List.zipWith (λ x y=>x-f*y) r t
theorem lK {f:Rat} {r t:List Rat} (h:r.length=t.length):(qh f r t).length=r.length:=by simp [qh,h]
theorem Wb {f:Rat} {r t:List Rat} {j:Nat} {x y:Rat} (hx:r[j]? = some x) (hy:t[j]? = some y):(qh f r t)[j]? = some (x-f*y):=by
 simp [qh,List.getElem?_zipWith,hx,hy]
theorem lJ {f:Rat} {r t:List Rat} (h:r.length=t.length) (j:Nat):(qh f r t).getD j 0=r.getD j 0-f*t.getD j 0:=by
 rw[List.getD_eq_getElem?_getD,List.getD_eq_getElem?_getD,List.getD_eq_getElem?_getD];cases hx:r[j]? with
 | none =>
  have h1:=List.getElem?_eq_none_iff.1 hx;rw[List.getElem?_eq_none (by rw[lK h];exact h1),List.getElem?_eq_none (l:=t) (by omega)];show (0:Rat)=0-f*0;grind
 | some x =>
  have h1:=(zS hx).1;obtain ⟨y,hy⟩ : ∃ y,t[j]? = some y:=⟨_,zE (by omega)⟩;rw[Wb hx hy,hy];rfl
theorem mD (l:List Rat) (p:Rat) (j:Nat):(l.map (· / p)).getD j 0=l.getD j 0/p:=by
 rw[List.getD_eq_getElem?_getD,List.getD_eq_getElem?_getD,List.getElem?_map];cases l[j]? with
 | none=>show (0:Rat)=0/p;rw[Rat.div_def,Rat.zero_mul]
 | some x=>rfl
theorem bR (p:Rat) : ∀ (r X:List Rat),A6 (r.map (· / p)) X=A6 r X/p
 | [],X=>by
  show A6 [] X=A6 [] X/p;simp only[A6,Rat.div_def];grind
 | x::r,[]=>by simp only[List.map_cons,A6,Rat.div_def];grind
 | x::r,z::X=>by
  have ih:=bR p r X;simp only[Rat.div_def]at ih;simp only[List.map_cons,A6,ih,Rat.div_def];grind
theorem Xg {n i:Nat} {v:List Rat} (hv:v.length=n) (hi:i<n):A6 (PK n i) v=v.getD i 0:=by
 have e:=congrArg (λ l=>l.getD i 0) (AfK hv);simp only[P6,dP,List.map_map]at e;rw[RA,if_pos hi]at e;exact e
end Go.b8

namespace Go.b8
theorem DF.m7 {m:List (List Rat)} {W c i:Nat} {P:List Nat} {r r':List Rat} (h:DF m W c P) (hi:m[i]? = some r) (hl:r'.length=W) (he : ∀ j,j<c->r'.getD j 0=r.getD j 0):DF (m.set i r') W c P:=by
 have x8 : ∀ (q:Nat) (x:List Rat),(m.set i r')[q]? = some x -> ∃ y,m[q]? = some y /\ ∀ j,j<c->x.getD j 0=y.getD j 0:=λ q x hx=>by
  rw[List.getElem?_set]at hx;by_cases e:i=q
  ·subst e
   rw[if_pos rfl]at hx;split at hx
   ·obtain rfl:=Option.some.inj hx;exact ⟨r,hi,he⟩
   ·cases hx
  ·rw[if_neg e]at hx;exact ⟨x,hx,λ_ _=>rfl⟩
 refine ⟨λ x hx => ?_,by rw[List.length_set];exact h.pl,h.inc,h.pb,λ q p x hp hx => ?_,λ q x hq hx j hj => ?_⟩
 ·rcases OD hx with rfl|⟨j,_,hj⟩
  ·exact hl
  ·exact h.lr _ (zM hj)
 ·obtain ⟨y,hy,nq⟩:=x8 q x hx
  have zt:=h.pb p (zM hp);have:=h.nz q p y hp hy
  exact ⟨by rw[nq p zt];exact this.1,λ j hj=>by rw[nq j (by omega)];exact this.2 j hj⟩
 ·obtain ⟨y,hy,nq⟩:=x8 q x hx
  rw[nq j hj];exact h.zr q y hq hy j hj
structure C7 (T:List (List Rat)) (n w:Nat) (m:List (List Rat)) (P:List Nat) (c:Nat) (d:Rat):Prop where
 o6:DF m w c P
 len:m.length=n
 red : ∀ (i p:Nat),P[i]? = some p -> ∀ (q:Nat) (r:List Rat),m[q]? = some r->r.getD p 0=if q=i then 1 else 0
 ml : ∀ X,E8 m X↔E8 T X
 dt : ∀ (u:Rat) (D:List (List Rat)->Rat),WM n w u D->D T=d*D m
theorem C7.start {T:List (List Rat)} {n w:Nat} (hl:T.length=n) (hw : ∀ r∈T,r.length=w):C7 T n w T [] 0 1 :=
 ⟨DF.start hw,hl,λ i p h=>by simp at h,λ_=>Iff.rfl,λ_ _ _=>(Rat.one_mul _).symm⟩
section
variable {T:List (List Rat)} {n w:Nat} {m:List (List Rat)} {P:List Nat} {c:Nat} {d:Rat}
theorem C7.skip (h:C7 T n w m P c d) (hz : ∀ (i:Nat) (r:List Rat),P.length<=i->m[i]? = some r->r.getD c 0=0):C7 T n w m P (c+1) d :=
 ⟨h.o6.skip hz,h.len,h.red,h.ml,h.dt⟩
theorem C7.m7 {i:Nat} {r r':List Rat} {d':Rat} (h:C7 T n w m P c d) (hi:m[i]? = some r) (hl:r'.length=w) (he : ∀ j,j<c->r'.getD j 0=r.getD j 0) (hk : ∀ X,E8 (m.set i r') X↔E8 m X) (hD : ∀ (u:Rat) (D:List (List Rat)->Rat),WM n w u D->d*D m=d'*D (m.set i r')):C7 T n w (m.set i r') P c d':=by
 refine ⟨h.o6.m7 hi hl he,by rw[List.length_set];exact h.len,λ i2 p hp q x hx => ?_,λ X=>(hk X).trans (h.ml X),λ u D hd=>(h.dt u D hd).trans (hD u D hd)⟩;rw[List.getElem?_set]at hx;by_cases e:i=q
 ·subst e
  rw[if_pos rfl]at hx;split at hx
  ·obtain rfl:=Option.some.inj hx
   rw[he p (h.o6.pb p (zM hp))];exact h.red i2 p hp i r hi
  ·cases hx
 ·rw[if_neg e]at hx
  exact h.red i2 p hp q x hx
theorem C7.scale {t:List Rat} {p:Rat} (h:C7 T n w m P c d) (hk:m[P.length]? = some t) (hp:p≠0):C7 T n w (m.set P.length (t.map (· / p))) P c (d*p):=by
 have od:=(zS hk).1;refine h.m7 hk (by rw[List.length_map];exact h.o6.lr t (zM hk)) (λ j hj => ?_) (λ X=>⟨λ hw x hx => ?_,λ hw x hx => ?_⟩) (λ u D hd => ?_)
 ·rw[mD,h.o6.zr P.length t (Nat.le_refl _) hk j hj,Rat.div_def,Rat.zero_mul]
 ·obtain ⟨q,hq⟩:=List.getElem?_of_mem hx
  by_cases e:q=P.length
  ·subst e
   cases hk.symm.trans hq;have h1:=hw (t.map (· / p)) (zM (i:=P.length) (by rw[List.getElem?_set,if_pos rfl,if_pos od]));rw[bR]at h1;have h2:A6 t X=A6 t X/p*p:=by rw[Rat.div_def,Rat.mul_assoc,Rat.inv_mul_cancel _ hp,Rat.mul_one]
   rw[h2,h1,Rat.zero_mul]
  ·exact hw x (zM (i:=q) (by rw[List.getElem?_set,if_neg (Ne.symm e)];exact hq))
 ·rcases OD hx with rfl|⟨j,_,hj⟩
  ·rw[bR,hw t (zM hk),Rat.div_def,Rat.zero_mul]
  ·exact hw x (zM hj)
 ·have h1:=hd.sc m P.length t p⁻¹ h.len h.o6.lr hk
  rw[show t.map (· * p⁻¹)=t.map (· / p) from List.map_congr_left λ z _=>(Rat.div_def z p).symm]at h1;have h2:=Rat.mul_inv_cancel p hp;rw[h1];grind
theorem lI (f:Rat) (r t:List Rat):qh f r t=comb 1 f 1 r t:=by
 unfold qh comb;congr 1;funext x y
 rw[Rat.div_def];grind
theorem C7.qh {i:Nat} {r t:List Rat} (f:Rat) (h:C7 T n w m P c d) (hk:m[P.length]? = some t) (hi:m[i]? = some r) (ka:i≠P.length):C7 T n w (m.set i (qh f r t)) P c d:=by
 have jn:=h.o6.lr r (zM hi);have de:=h.o6.lr t (zM hk);refine h.m7 hi (by rw[lK (by omega)];exact jn) (λ j hj => ?_) (λ X => ?_) (λ u D hd => ?_)
 ·rw[lJ (by omega),h.o6.zr P.length t (Nat.le_refl _) hk j hj,Rat.mul_zero]
  grind
 ·rw[lI]
  exact qP hi hk (Ne.symm ka) (by omega) (by decide) (by decide) X
 ·have h1:=hd.ad m i P.length r t 1 f 1 h.len h.o6.lr hi hk ka (by decide)
  rw[lI,h1,Rat.div_def];grind
theorem C7.swap {i:Nat} {r t:List Rat} (h:C7 T n w m P c d) (hi:m[i]? = some r) (hk:m[P.length]? = some t) (hki:P.length<i):C7 T n w ((m.set i t).set P.length r) P c (-d):=by
 have w5:=(zS hi).1;have od:=(zS hk).1;refine ⟨h.o6.swap hi hk (by omega) (Nat.le_refl _),by rw[List.length_set,List.length_set];exact h.len,λ i2 p hp q x hx => ?_,λ X=>(qO hi hk X).trans (h.ml X),λ u D hd => ?_⟩
 ·have ru:=(zS hp).1
  rw[List.getElem?_set,List.getElem?_set,List.length_set]at hx;by_cases e1:P.length=q
  ·rw[if_pos e1,if_pos (by omega)]at hx
   obtain rfl:=Option.some.inj hx;have:=h.red i2 p hp i r hi
   rw[if_neg (by omega)]at this;rw[if_neg (by omega)];exact this
  ·rw[if_neg e1]at hx
   by_cases e2:i=q
   ·rw[if_pos e2,if_pos (by omega)]at hx
    obtain rfl:=Option.some.inj hx;have:=h.red i2 p hp _ t hk
    rw[if_neg (by omega)]at this;rw[if_neg (by omega)];exact this
   ·rw[if_neg e2]at hx
    exact h.red i2 p hp q x hx
 ·rw[h.dt u D hd,hd.sw m i P.length r t h.len h.o6.lr hi hk (by omega)]
  grind
theorem C7.qy {t:List Rat} (h:C7 T n w m P c d) (hk:m[P.length]? = some t) (h1:t.getD c 0=1) (hz : ∀ (q:Nat) (r:List Rat),q≠P.length->m[q]? = some r->r.getD c 0=0):C7 T n w m (P++[c]) (c+1) d:=by
 refine ⟨h.o6.qy hk (by rw[h1];decide) (λ i r hi hr=>hz i r (by omega) hr),h.len,λ i p hp q r hr => ?_,h.ml,h.dt⟩;by_cases e:i<P.length
 ·rw[List.getElem?_append_left e]at hp
  exact h.red i p hp q r hr
 ·have w5:=(zS hp).1
  rw[List.length_append,List.length_singleton]at w5;rw[List.getElem?_append_right (by omega),show i-P.length=0 by omega]at hp;obtain rfl:=Option.some.inj hp;obtain rfl:i=P.length:=by omega
  by_cases e2:q=P.length
  ·subst e2
   cases hk.symm.trans hr;rw[if_pos rfl,h1]
  ·rw[if_neg e2];exact hz q r e2 hr
theorem C7.full {w':Nat} (h:C7 T n w m P c d) (hc:c<=w') (af:w'<=c\/n<=P.length):DF m w w' P:=by
 rcases af with e|e
 ·obtain rfl:c=w':=by omega
  exact h.o6
 ·have:=h.o6.pl
  have:=h.len
  exact h.o6.wide (by omega) hc
theorem C7.piv (h:C7 T n w m P c d) (hc:c<=n) (hP:P.length=n) : ∀ i,i<n->P[i]? = some i:=λ i hi=>by
 have qo:c=n:=by have:=h.o6.le;omega
 subst qo;obtain ⟨q,hq⟩ : ∃ q,P[i]? = some q:=⟨_,zE (by omega)⟩;rw[hq,h.o6.diag hP i q hq]
theorem C7.unit (h:C7 T n w m P c d) (hc:c<=n) (hP:P.length=n) {i:Nat} (hi:i<n) {q:Nat} {r:List Rat} (hr:m[q]? = some r):r.getD i 0=if q=i then 1 else 0 :=
 h.red i i (h.piv hc hP i hi) q r hr
end
theorem C7.ns {a b m:List (List Rat)} {n W:Nat} {P:List Nat} {c:Nat} {d:Rat} (h:C7 (DW a b) n (n+W) m P c d) (hl:a.length=b.length) (ha : ∀ r∈a,r.length=n) (hc:c<=n) (af:n<=c\/n<=P.length):P.length=n↔NS n a :=
 tU (h.full hc af) h.ml hl ha
def HJ (m:List (List Rat)) (k:Nat):List Rat:=m.map λ r=>r.getD k 0
theorem C7.Nq {a b m:List (List Rat)} {n W:Nat} {P:List Nat} {c:Nat} {d:Rat} (h:C7 (DW a b) n (n+W) m P c d) (hl:a.length=b.length) (ha : ∀ r∈a,r.length=n) (hb : ∀ r∈b,r.length=W) (hc:c<=n) (hP:P.length=n) {k:Nat} (hk:k<W) {i:Nat} {r s:List Rat} (hr:a[i]? = some r) (hs:b[i]? = some s):A6 r (HJ m (n+k))=s.getD k 0:=by
 have bm:(HJ m (n+k)).length=n:=by rw[HJ,List.length_map];exact h.len
 refine lN h.ml hl ha hb hk bm h.o6.lr (λ x hx => ?_) hr hs;obtain ⟨q,hq⟩:=List.getElem?_of_mem hx;have Dp:q<n:=by have:=(zS hq).1;have:=h.len;omega
 have Cr:=h.o6.lr x hx;have hu:x.take n=PK n q:=by
  refine List.ext_getElem? λ j => ?_
  by_cases hj:j<n
  ·have h1:=h.unit hc hP hj hq
   have h2:=AhC n q j;rw[if_pos hj]at h2;rw[List.getElem?_take,if_pos hj];obtain ⟨y,hy⟩ : ∃ y,x[j]? = some y:=⟨_,zE (by omega)⟩;obtain ⟨z,hz⟩ : ∃ z,(PK n q)[j]? = some z:=⟨_,zE (by rw[wT];exact hj)⟩;rw[List.getD_eq_getElem?_getD,hy,Option.getD_some]at h1;rw[List.getD_eq_getElem?_getD,hz,Option.getD_some]at h2;rw[hy,hz,h1,h2];by_cases e:q=j
   ·rw[if_pos e,if_pos e.symm]
   ·rw[if_neg e,if_neg (Ne.symm e)]
  ·rw[List.getElem?_eq_none (by rw[List.length_take];omega),List.getElem?_eq_none (by rw[wT];omega)]
 rw[hu,Xg bm Dp,HJ,List.getD_eq_getElem?_getD,List.getElem?_map,hq];rfl
end Go.b8

namespace Go.b8
end Go.b8

namespace Go.b8
open F
attribute [local irreducible] AA AF AQ AC CI AW A5 A9 B4 B3 CE DE BX A3 BW CD AB A4 AJ pw BV BN CS CR C1 CY CT BL DD
variable {L:Lib}
set_option maxHeartbeats 1000000
def C2 (a b:Int):Int:=if a<b then -1 else if b<a then 1 else 0
theorem HR {a b:Int} (h:a<b) : -1=C2 a b:=by unfold C2;rw[if_pos h]
theorem N7 {a b:Int} (h:b<a):1=C2 a b:=by unfold C2;rw[if_neg (by omega),if_pos h]
theorem QY {a b:Int} (h:a=b):0=C2 a b:=by unfold C2;rw[if_neg (by omega),if_neg (by omega)]
theorem Adn (N:c6 L) (a:Int):Ev L 58 [.int .i64 a] (.bool false):=by
 refine Ev.x N.KL rfl rfl ?_;(repeat' ((first|(apply AG<;>intro hc<;>try omega)|apply AE)<;>conv=>whnf))
 exact DM rfl
theorem Ado (N:c6 L) (a:Int):Ev L 59 [.int .u32 a] (.bool false):=by
 refine Ev.x N.KM rfl rfl ?_;(repeat' ((first|(apply AG<;>intro hc<;>try omega)|apply AE)<;>conv=>whnf))
 exact DM rfl
theorem Yd (N:c6 L) (a b:Int):Ev L 60 [.int .i64 a,.int .i64 b] (.int .i64 (C2 a b)):=by
 refine Ev.x N.KH rfl rfl ?_;(repeat' ((first|(apply AG<;>intro hc<;>try omega)|apply AE|refine AD (Adn N _) ?_)<;>conv=>whnf))
 ·exact C6 (HR (by omega))
 ·exact C6 (N7 (by omega))
 ·exact C6 (QY (by omega))
theorem Wu (N:c6 L) (a b:Int):Ev L 61 [.int .u32 a,.int .u32 b] (.int .i64 (C2 a b)):=by
 refine Ev.x N.KJ rfl rfl ?_;(repeat' ((first|(apply AG<;>intro hc<;>try omega)|apply AE|refine AD (Ado N _) ?_)<;>conv=>whnf))
 ·exact C6 (HR (by omega))
 ·exact C6 (N7 (by omega))
 ·exact C6 (QY (by omega))
theorem nP (N:c6 L) (l:List Nat) (q:Bool) (hl:l.length<=1099511627776):Ev L 62 [.sl q (l.map AL)] (.sl false (l.map AL)):=by
 cases l with
 | nil =>
  refine FJ.nil N.HA (FJ.x N.HA rfl rfl ?_) (FJ.x N.HA rfl rfl ?_)
  ·(repeat' (apply AE<;>conv=>whnf))
   exact AX rfl (by simp [A2,EZ])
  ·(repeat' (apply AE<;>conv=>whnf))
   refine WJ (enc:=AL) (l:=[]) (l':=[]) rfl (λ_=>rfl) (by simp) (by simp) ?_;(conv=>whnf)
   (repeat' ((refine EE (λ_=>rfl) rfl ?_ ?_;(first|rfl|simp))<;>conv=>whnf))
   exact AX rfl (by simp [A2,EZ])
 | cons d l =>
  refine FJ.cons (FJ.x N.HA rfl rfl ?_);(repeat' (apply AE<;>conv=>whnf))
  refine AY (by simp) ?_;(conv=>whnf)
  skip
  refine WJ (enc:=AL) (l:=[]) (l':=d::l) rfl (λ_=>rfl) (by simp at hl ⊢;omega) (by simp at hl ⊢;omega) ?_;(conv=>whnf)
  (repeat' ((refine EE (λ_=>rfl) rfl ?_ ?_;(first|rfl|simp))<;>conv=>whnf))
  exact AX rfl (by simp only[A2,true_and];exact B5 (d::l))
theorem KA (N:c6 L) (l:List Nat) (q:Bool) (hD:A0 l) (hl:l.length<=1099511627776):T9 L 65 [.sl q (l.map AL)] (.sl q ((dg (val l)).map AL)):=by
 refine Ti N.FF rfl rfl rfl rfl rfl ?_;(repeat' ((first|apply AU|apply AE)<;>conv=>whnf))
 refine C5 (λ n=>n) (λ(n:Nat)=>n<=l.length /\ ∀ i,n<=i->i<l.length->l[i]? = some 0) (λ n=>[(3,.int .i64 n)]) (λ_=>[]) l.length ⟨Nat.le_refl _,λ i h1 h2=>by omega⟩ ?_;intro n ⟨p1,p2⟩ ih;rcases n with _|n
 ·(repeat' ((first|(apply AG<;>intro hc<;>try omega)|apply AE)<;>conv=>whnf))
  refine OR (k:=0) (λ_=>rfl) (by omega) ?_;(conv=>whnf)
  refine ⟨_,rfl,?_⟩;rw[F2 hD p1 p2 (Or.inl rfl)];rfl
 ·have e1:((n+1:Nat):Int)-1=n:=by omega
  (repeat' ((first|(apply AG<;>intro hc<;>try omega)|(apply B1;omega)|(refine PP (by assumption) ?_ (λ e he hb => ?_);omega)|apply AE)<;>conv=>whnf))
  ·rw[e1]
   exact BM [] (ih n (by omega) ⟨by omega,λ i h1 h2=>by
    by_cases h:i=n
    ·subst h
     rw[e1,Int.toNat_natCast]at he;rw[he];congr 1;omega
    ·exact p2 i (by omega) h2⟩)
  ·refine OR (k:=n+1) (λ_=>rfl) (by omega) ?_
   (conv=>whnf)
   refine ⟨_,rfl,?_⟩;rw[e1,Int.toNat_natCast]at he;rw[F2 hD p1 p2 (Or.inr ⟨e,he,by omega⟩)];rfl
theorem UT (N:c6 L) (l:List Nat) (q:Bool) (hD:A0 l) (hl:l.length<=1099511627776):Ev L 66 [.sl q (l.map AL)] (.sl false ((dg (val l)).map AL)):=by
 have hc:=EO hD;refine Ev.x N.LP rfl rfl ?_;(repeat' ((first|apply AE|refine JU (KA N l _ hD hl) ?_|refine AD (nP N (dg (val l)) _ (by omega)) ?_)<;>conv=>whnf))
 exact AX rfl (by simp only[A2,true_and];exact B5 _)
theorem Wf {a b:Nat} (h:((dg a).length:Int)≠(dg b).length):C2 (dg a).length (dg b).length=C2 a b:=by
 rcases Nat.lt_trichotomy (dg a).length (dg b).length with h1|h1|h1
 ·have:=TW h1
  rw[<-HR (by omega),<-HR (by omega)]
 ·omega
 ·have:=TW h1
  rw[<-N7 (by omega),<-N7 (by omega)]
theorem O0 (N:c6 L) (a b:List Nat) (q1 q2:Bool) (hA:A0 a) (hB:A0 b) (la:a.length<=1099511627776) (lb:b.length<=1099511627776):Ev L 67 [.sl q1 (a.map AL),.sl q2 (b.map AL)] (.int .i64 (C2 (val a) (val b))):=by
 have l1:=EO hA;have l2:=EO hB;have d1:=DU (val a);have d2:=DU (val b);refine Ev.x N.LL rfl rfl ?_;(repeat' ((first|(apply AG<;>intro hc<;>try omega)|(apply B1;omega)|apply AU|apply AE|refine JU (KA N a _ hA la) ?_|refine JU (KA N b _ hB lb) ?_|refine AD (Yd N _ _) ?_)<;>conv=>whnf))
 ·exact C6 (Wf (by omega))
 have hlen:(dg (val a)).length=(dg (val b)).length:=by omega
 have v1:=BT (val a);have v2:=BT (val b);generalize dg (val a)=X at *;generalize dg (val b)=Y at *;refine C5 (λ n=>n) (λ(n:Nat)=>n<=X.length/\X.drop n=Y.drop n) (λ n=>[(7,.int .i64 ((n:Int)-1))]) (λ_=>[]) X.length ⟨Nat.le_refl _,by rw[List.drop_of_length_le (Nat.le_refl _),List.drop_of_length_le (by omega)]⟩ ?_;intro n ⟨p1,p2⟩ ih;rcases n with _|n
 ·(repeat' ((first|(apply AG<;>intro hc<;>try omega)|apply AE)<;>conv=>whnf))
  rw[List.drop_zero,List.drop_zero]at p2;exact C6 (QY (by rw[<-v1,<-v2,p2]))
 ·have e1:((n+1:Nat):Int)-1=n:=by omega
  rw[e1];(repeat' ((first|(apply AG<;>intro hc<;>try omega)|(apply B1;omega)|(refine BA (by assumption) ?_ rfl ?_;omega)|(refine WZ (by assumption) ?_ (λ e he hb => ?_);omega)|apply AE|refine AD (Wu N _ _) ?_)<;>conv=>whnf))
  ·rename_i x hx _
   rcases Nat.lt_trichotomy x e with h|h|h
   ·have:=Z4 d1 d2 hlen hx he p2 h
    refine C6 ?_;rw[<-HR (by omega),<-HR (by omega)]
   ·omega
   ·have:=Z4 d2 d1 hlen.symm he hx p2.symm h
    refine C6 ?_;rw[<-N7 (by omega),<-N7 (by omega)]
  ·rename_i x hx _
   refine BS [] (by (conv=>whnf);exact ⟨rfl,rfl,rfl⟩) (ih n (by omega) ⟨by omega,?_⟩);obtain ⟨i1,e1⟩:=zS hx;obtain ⟨i2,e2⟩:=zS he;rw[List.drop_eq_getElem_cons i1,List.drop_eq_getElem_cons i2,p2,e1,e2];congr 1;omega
theorem Z6 {y:List Nat} {i:Nat} (h:y.length<=i):val (y.take (i+1))=val (y.take i):=by
 rw[C3 h,C3 (by omega)]
theorem Ady (N:c6 L) (a b:List Nat) (q1 q2:Bool) (hA:A0 a) (hB:A0 b) (la:a.length<=1099511627775) (lb:b.length<=1099511627775):Ev L 68 [.sl q1 (a.map AL),.sl q2 (b.map AL)] (.sl false ((dg (val a+val b)).map AL)):=by
 have l1:=EO hA;have l2:=EO hB;have d1:=DU (val a);have d2:=DU (val b);have v1:=BT (val a);have v2:=BT (val b);refine Ev.x N.LK rfl rfl ?_;(repeat' ((first|(apply AG<;>intro hc<;>try omega)|(apply AZ;omega)|apply AU|apply AE|refine JU (KA N a _ hA (by omega)) ?_|refine JU (KA N b _ hB (by omega)) ?_)<;>conv=>whnf))
 ·generalize dg (val a)=y at *
  generalize dg (val b)=x at *;rw[<-v1,<-v2,Nat.add_comm (val y)];have hlen:y.length<=x.length:=by omega
  have Cr:x.length<=1099511627775:=by omega
  clear v1 v2 hA hB la lb;refine EJ (enc:=AL) 0 (x.length+1) rfl (by omega) (by omega) ?_;(conv=>whnf)
  (repeat' (apply AU<;>conv=>whnf))
  refine FV (λ i _ _=>x.length-i) (λ(i:Nat) (o:List Nat) (c:Nat)=>i<=x.length/\o.length=x.length+1/\A0 o/\c<=1/\val (o.take i)+4294967296^i*c=val (x.take i)+val (y.take i)) (λ i o c=>[(8,.int .u64 (c:Int)),(29,.int .i64 i)]) (λ i o c=>[(26,26,.rw 1 (o.map AL))]) 0 (List.replicate (x.length+1) 0) 0 ⟨by omega,by simp,IG _,by omega,by simp [val]⟩ ?_;intro i o c ⟨p1,p2,p3,p4,p5⟩ ih;by_cases hi:i<x.length
  ·(repeat' ((first|(apply AG<;>intro hc<;>try omega)|(apply AY;omega)|(apply FR;omega)|(apply CF;omega)|apply FI|apply AU|(refine WZ (by assumption) ?_ (λ e he hb => ?_);omega)|apply AE)<;>conv=>whnf))
   ·rename_i d hd _
    refine E6 (by omega) ?_;(conv=>whnf)
    (repeat' ((first|(apply AZ;omega)|apply FA)<;>conv=>whnf))
    refine BS [] (by (conv=>whnf);exact ⟨rfl,rfl,rfl⟩) (ih (i+1) _ _ (by omega) ⟨by omega,by simpa using p2,p3.set _ (by omega),by omega,?_⟩);have h1:=DX hd;have h2:=DX he;have h3:=OW (val (o.take i)) (4294967296^i) (d+c+e);have h4:=FO (v:=(d+c+e)%4294967296) (show i<o.length by omega);rw[h4,h1,h2,Nat.pow_succ];generalize 4294967296^i=p at *;rw[h3,Nat.mul_add,Nat.mul_add];omega
   ·refine E6 (by omega) ?_
    (conv=>whnf)
    (repeat' ((first|(apply AZ;omega)|apply FA)<;>conv=>whnf))
    refine BS [] (by (conv=>whnf);exact ⟨rfl,rfl,rfl⟩) (ih (i+1) _ _ (by omega) ⟨by omega,by simpa using p2,p3.set _ (by omega),by omega,?_⟩);have h1:=DX he;have h2:=Z6 (y:=y) (i:=i) (by omega);have h3:=OW (val (o.take i)) (4294967296^i) (e+c);have h4:=FO (v:=(e+c)%4294967296) (show i<o.length by omega);rw[h4,h1,h2,Nat.pow_succ];generalize 4294967296^i=p at *;rw[h3,Nat.mul_add];omega
  ·obtain rfl:i=x.length:=by omega
   clear ih;(repeat' ((first|(apply AG<;>intro hc<;>try omega)|(apply AY;omega)|(apply EA;omega)|apply AU|apply AE)<;>conv=>whnf))
   refine E6 (by omega) ?_;(conv=>whnf)
   skip
   have hV:val (o.set x.length c)=val x+val y:=by
    have h4:=FO (v:=c) (show x.length<o.length by omega);rw[zT (by simp;omega)]at h4;rw[h4,p5,C3 (Nat.le_refl _),C3 hlen]
   have hD:A0 (o.set x.length c):=p3.set _ (by omega);have hL:(o.set x.length c).length=x.length+1:=by simpa using p2
   clear p3 p4 p5 p2;generalize o.set x.length c=O at *;rw[<-hL];refine FW 1000 N.FF rfl rfl ?_;(repeat' (apply AE<;>conv=>whnf))
   refine EI (λ n=>n) (λ(n:Nat)=>n<=(O).length /\ ∀ i,n<=i->i<(O).length->(O)[i]? = some 0) (λ n=>[(3,.int .i64 n)]) (λ_=>[]) [] [] (O).length (by first|exact (by (conv=>whnf);exact ⟨rfl,rfl,rfl⟩)|(simp only[List.length_set,List.length_replicate];exact (by (conv=>whnf);exact ⟨rfl,rfl,rfl⟩))) ⟨Nat.le_refl _,λ i h1 h2=>by omega⟩ ?_;intro n ⟨p1,p2⟩ ih;rcases n with _|n
   ·(repeat' ((first|(apply AG<;>intro hc<;>try omega)|apply AE)<;>conv=>whnf))
    refine GY 0 (by omega) (by omega) ?_;(conv=>whnf)
    refine ⟨rfl,_,rfl,?_⟩;(conv=>whnf)
    have hm:=p1;have az:=F2 (l:=O) (by assumption) p1 p2 (Or.inl rfl);clear ih p1 p2;(refine HD (enc:=AL) (λ_=>rfl) (by omega) ?_;(conv=>whnf);exact AX (by rw[<-hV,<-az];rfl) (by simp only[A2,true_and];exact B5 _))
   ·have e1:((n+1:Nat):Int)-1=n:=by omega
    (repeat' ((first|(apply AG<;>intro hc<;>try omega)|(apply AY;omega)|(apply B1;omega)|(refine QP (by assumption) ?_ (λ v hv hb => ?_);omega)|apply AE)<;>conv=>whnf))
    ·rw[e1]
     exact BM [] (ih n (by omega) ⟨by omega,λ i h1 h2=>by
      by_cases h:i=n
      ·subst h
       rw[e1,Int.toNat_natCast]at hv;rw[hv];congr 1;omega
      ·exact p2 i (by omega) h2⟩)
    ·refine GY (n+1) (by omega) (by omega) ?_
     (conv=>whnf)
     refine ⟨rfl,_,rfl,?_⟩;(conv=>whnf)
     rw[e1,Int.toNat_natCast]at hv;have hm:=p1;have az:=F2 (l:=O) (by assumption) p1 p2 (Or.inr ⟨_,hv,by omega⟩);clear ih p1 p2 hv;(refine HD (enc:=AL) (λ_=>rfl) (by omega) ?_;(conv=>whnf);exact AX (by rw[<-hV,<-az];rfl) (by simp only[A2,true_and];exact B5 _))
 ·generalize dg (val a)=x at *
  generalize dg (val b)=y at *;rw[<-v1,<-v2];have hlen:y.length<=x.length:=by omega
  have Cr:x.length<=1099511627775:=by omega
  clear v1 v2 hA hB la lb;refine EJ (enc:=AL) 0 (x.length+1) rfl (by omega) (by omega) ?_;(conv=>whnf)
  (repeat' (apply AU<;>conv=>whnf))
  refine FV (λ i _ _=>x.length-i) (λ(i:Nat) (o:List Nat) (c:Nat)=>i<=x.length/\o.length=x.length+1/\A0 o/\c<=1/\val (o.take i)+4294967296^i*c=val (x.take i)+val (y.take i)) (λ i o c=>[(8,.int .u64 (c:Int)),(29,.int .i64 i)]) (λ i o c=>[(26,26,.rw 1 (o.map AL))]) 0 (List.replicate (x.length+1) 0) 0 ⟨by omega,by simp,IG _,by omega,by simp [val]⟩ ?_;intro i o c ⟨p1,p2,p3,p4,p5⟩ ih;by_cases hi:i<x.length
  ·(repeat' ((first|(apply AG<;>intro hc<;>try omega)|(apply AY;omega)|(apply FR;omega)|(apply CF;omega)|apply FI|apply AU|(refine WZ (by assumption) ?_ (λ e he hb => ?_);omega)|apply AE)<;>conv=>whnf))
   ·rename_i d hd _
    refine E6 (by omega) ?_;(conv=>whnf)
    (repeat' ((first|(apply AZ;omega)|apply FA)<;>conv=>whnf))
    refine BS [] (by (conv=>whnf);exact ⟨rfl,rfl,rfl⟩) (ih (i+1) _ _ (by omega) ⟨by omega,by simpa using p2,p3.set _ (by omega),by omega,?_⟩);have h1:=DX hd;have h2:=DX he;have h3:=OW (val (o.take i)) (4294967296^i) (d+c+e);have h4:=FO (v:=(d+c+e)%4294967296) (show i<o.length by omega);rw[h4,h1,h2,Nat.pow_succ];generalize 4294967296^i=p at *;rw[h3,Nat.mul_add,Nat.mul_add];omega
   ·refine E6 (by omega) ?_
    (conv=>whnf)
    (repeat' ((first|(apply AZ;omega)|apply FA)<;>conv=>whnf))
    refine BS [] (by (conv=>whnf);exact ⟨rfl,rfl,rfl⟩) (ih (i+1) _ _ (by omega) ⟨by omega,by simpa using p2,p3.set _ (by omega),by omega,?_⟩);have h1:=DX he;have h2:=Z6 (y:=y) (i:=i) (by omega);have h3:=OW (val (o.take i)) (4294967296^i) (e+c);have h4:=FO (v:=(e+c)%4294967296) (show i<o.length by omega);rw[h4,h1,h2,Nat.pow_succ];generalize 4294967296^i=p at *;rw[h3,Nat.mul_add];omega
  ·obtain rfl:i=x.length:=by omega
   clear ih;(repeat' ((first|(apply AG<;>intro hc<;>try omega)|(apply AY;omega)|(apply EA;omega)|apply AU|apply AE)<;>conv=>whnf))
   refine E6 (by omega) ?_;(conv=>whnf)
   skip
   have hV:val (o.set x.length c)=val x+val y:=by
    have h4:=FO (v:=c) (show x.length<o.length by omega);rw[zT (by simp;omega)]at h4;rw[h4,p5,C3 (Nat.le_refl _),C3 hlen]
   have hD:A0 (o.set x.length c):=p3.set _ (by omega);have hL:(o.set x.length c).length=x.length+1:=by simpa using p2
   clear p3 p4 p5 p2;generalize o.set x.length c=O at *;rw[<-hL];refine FW 1000 N.FF rfl rfl ?_;(repeat' (apply AE<;>conv=>whnf))
   refine EI (λ n=>n) (λ(n:Nat)=>n<=(O).length /\ ∀ i,n<=i->i<(O).length->(O)[i]? = some 0) (λ n=>[(3,.int .i64 n)]) (λ_=>[]) [] [] (O).length (by first|exact (by (conv=>whnf);exact ⟨rfl,rfl,rfl⟩)|(simp only[List.length_set,List.length_replicate];exact (by (conv=>whnf);exact ⟨rfl,rfl,rfl⟩))) ⟨Nat.le_refl _,λ i h1 h2=>by omega⟩ ?_;intro n ⟨p1,p2⟩ ih;rcases n with _|n
   ·(repeat' ((first|(apply AG<;>intro hc<;>try omega)|apply AE)<;>conv=>whnf))
    refine GY 0 (by omega) (by omega) ?_;(conv=>whnf)
    refine ⟨rfl,_,rfl,?_⟩;(conv=>whnf)
    have hm:=p1;have az:=F2 (l:=O) (by assumption) p1 p2 (Or.inl rfl);clear ih p1 p2;(refine HD (enc:=AL) (λ_=>rfl) (by omega) ?_;(conv=>whnf);exact AX (by rw[<-hV,<-az];rfl) (by simp only[A2,true_and];exact B5 _))
   ·have e1:((n+1:Nat):Int)-1=n:=by omega
    (repeat' ((first|(apply AG<;>intro hc<;>try omega)|(apply AY;omega)|(apply B1;omega)|(refine QP (by assumption) ?_ (λ v hv hb => ?_);omega)|apply AE)<;>conv=>whnf))
    ·rw[e1]
     exact BM [] (ih n (by omega) ⟨by omega,λ i h1 h2=>by
      by_cases h:i=n
      ·subst h
       rw[e1,Int.toNat_natCast]at hv;rw[hv];congr 1;omega
      ·exact p2 i (by omega) h2⟩)
    ·refine GY (n+1) (by omega) (by omega) ?_
     (conv=>whnf)
     refine ⟨rfl,_,rfl,?_⟩;(conv=>whnf)
     rw[e1,Int.toNat_natCast]at hv;have hm:=p1;have az:=F2 (l:=O) (by assumption) p1 p2 (Or.inr ⟨_,hv,by omega⟩);clear ih p1 p2 hv;(refine HD (enc:=AL) (λ_=>rfl) (by omega) ?_;(conv=>whnf);exact AX (by rw[<-hV,<-az];rfl) (by simp only[A2,true_and];exact B5 _))
theorem Wc {a b:Int} (h:C2 a b<=0):a<=b:=by
 unfold C2 at h;split at h
 ·omega
 ·split at h<;>omega
theorem We {a b:Int} (h:0<C2 a b):b<a:=by
 unfold C2 at h;split at h
 ·omega
 ·split at h<;>omega
theorem oE (N:c6 L) (a b:List Nat) (q1 q2:Bool) (hA:A0 a) (hB:A0 b) (la:a.length<=1099511627776) (lb:b.length<=1099511627776):Ev L 69 [.sl q1 (a.map AL),.sl q2 (b.map AL)] (.sl false ((dg (val a-val b)).map AL)):=by
 have l1:=EO hA;have l2:=EO hB;have d1:=DU (val a);have d2:=DU (val b);have v1:=BT (val a);have v2:=BT (val b);refine Ev.x N.LO rfl rfl ?_;(repeat' ((first|(apply AG<;>intro hc<;>try omega)|apply AU|apply AE|refine AD (O0 N a b _ _ hA hB la lb) ?_|refine JU (KA N a _ hA la) ?_|refine JU (KA N b _ hB lb) ?_)<;>conv=>whnf))
 ·have:=Wc hc
  refine AX ?_ (by simp only[A2,true_and];exact B5 _);rw[show val a-val b=0 by omega,EU];rfl
 ·have g9:=We hc
  have rz:(dg (val b)).length<=(dg (val a)).length:=by
   rcases Nat.lt_or_ge (dg (val a)).length (dg (val b)).length with h|h
   ·have:=TW h;omega
   ·exact h
  have ur:val b<val a:=by omega
  clear g9 hc;generalize dg (val a)=x at *;generalize dg (val b)=y at *;rw[<-v1,<-v2]at ur ⊢;clear v1 v2 hA hB lb;refine EJ (enc:=AL) 0 x.length rfl rfl (by omega) ?_;(conv=>whnf)
  (repeat' (apply AU<;>conv=>whnf))
  refine FV (λ i _ _=>x.length-i) (λ(i:Nat) (o:List Nat) (c:Nat)=>i<=x.length/\o.length=x.length/\A0 o/\c<=1/\val (o.take i)+val (y.take i)=val (x.take i)+4294967296^i*c) (λ i o c=>[(8,.int .u64 (c:Int)),(25,.int .i64 i)]) (λ i o c=>[(22,22,.rw 1 (o.map AL))]) 0 (List.replicate x.length 0) 0 ⟨by omega,by simp,IG _,by omega,by simp [val]⟩ ?_;intro i o c ⟨p1,p2,p3,p4,p5⟩ ih;by_cases hi:i<x.length
  ·(repeat' ((first|(apply AG<;>intro hc<;>try omega)|(apply AY;omega)|(apply WX;omega)|(apply CF;omega)|apply FI|apply AU|(refine WZ (by assumption) ?_ (λ e he hb => ?_);omega)|apply AE)<;>conv=>whnf))
   ·rename_i d hd bb
    obtain ⟨s1,s2⟩:=Ahr bb hb p4;refine E6 (by omega) ?_;(conv=>whnf)
    (repeat' ((first|(apply AZ;omega)|apply WU)<;>conv=>whnf))
    generalize EH (EH d c) e=t at *;refine BS [] (by (conv=>whnf);exact ⟨rfl,rfl,rfl⟩) (ih (i+1) _ _ (by omega) ⟨by omega,by simpa using p2,p3.set _ (by omega),s2,?_⟩);rw[FO (by omega),DX hd,DX he,Nat.pow_succ];exact vU p5 s1
   ·obtain ⟨s1,s2⟩:=Ahq hb p4
    refine E6 (by omega) ?_;(conv=>whnf)
    (repeat' ((first|(apply AZ;omega)|apply WU)<;>conv=>whnf))
    generalize EH e c=t at *;refine BS [] (by (conv=>whnf);exact ⟨rfl,rfl,rfl⟩) (ih (i+1) _ _ (by omega) ⟨by omega,by simpa using p2,p3.set _ (by omega),s2,?_⟩);rw[FO (by omega),DX he,Z6 (by omega),Nat.pow_succ];rw[<-Nat.add_zero (t%4294967296)]at s1;have:=vU (e:=0) p5 s1
    rw[Nat.mul_zero,Nat.add_zero]at this;exact this
  ·obtain rfl:i=x.length:=by omega
   clear ih;have bh:c=0:=by
    rw[C3 (by omega),C3 rz,C3 (Nat.le_refl _)]at p5;have:=EY p3
    rw[p2]at this;rcases Nat.eq_zero_or_pos c with h|h
    ·exact h
    ·have:c=1:=by omega
     subst this;omega
   subst bh;have hV:val o=val x-val y:=by
    rw[C3 (by omega),C3 rz,C3 (Nat.le_refl _)]at p5;omega
   clear p5 p4;rw[<-p2];(repeat' ((first|(apply AG<;>intro hc<;>try omega)|apply AE)<;>conv=>whnf))
   refine FW 1000 N.FF rfl rfl ?_;(repeat' (apply AE<;>conv=>whnf))
   refine EI (λ n=>n) (λ(n:Nat)=>n<=(o).length /\ ∀ i,n<=i->i<(o).length->(o)[i]? = some 0) (λ n=>[(3,.int .i64 n)]) (λ_=>[]) [] [] (o).length (by first|exact (by (conv=>whnf);exact ⟨rfl,rfl,rfl⟩)|(simp only[List.length_set,List.length_replicate];exact (by (conv=>whnf);exact ⟨rfl,rfl,rfl⟩))) ⟨Nat.le_refl _,λ i h1 h2=>by omega⟩ ?_;intro n ⟨p1,p2⟩ ih;rcases n with _|n
   ·(repeat' ((first|(apply AG<;>intro hc<;>try omega)|apply AE)<;>conv=>whnf))
    refine GY 0 (by omega) (by omega) ?_;(conv=>whnf)
    refine ⟨rfl,_,rfl,?_⟩;(conv=>whnf)
    have hm:=p1;have az:=F2 (l:=o) (by assumption) p1 p2 (Or.inl rfl);clear ih p1 p2;(refine HD (enc:=AL) (λ_=>rfl) (by omega) ?_;(conv=>whnf);exact AX (by rw[<-hV,<-az];rfl) (by simp only[A2,true_and];exact B5 _))
   ·have e1:((n+1:Nat):Int)-1=n:=by omega
    (repeat' ((first|(apply AG<;>intro hc<;>try omega)|(apply AY;omega)|(apply B1;omega)|(refine QP (by assumption) ?_ (λ v hv hb => ?_);omega)|apply AE)<;>conv=>whnf))
    ·rw[e1]
     exact BM [] (ih n (by omega) ⟨by omega,λ i h1 h2=>by
      by_cases h:i=n
      ·subst h
       rw[e1,Int.toNat_natCast]at hv;rw[hv];congr 1;omega
      ·exact p2 i (by omega) h2⟩)
    ·refine GY (n+1) (by omega) (by omega) ?_
     (conv=>whnf)
     refine ⟨rfl,_,rfl,?_⟩;(conv=>whnf)
     rw[e1,Int.toNat_natCast]at hv;have hm:=p1;have az:=F2 (l:=o) (by assumption) p1 p2 (Or.inr ⟨_,hv,by omega⟩);clear ih p1 p2 hv;(refine HD (enc:=AL) (λ_=>rfl) (by omega) ?_;(conv=>whnf);exact AX (by rw[<-hV,<-az];rfl) (by simp only[A2,true_and];exact B5 _))
theorem cN (N:c6 L) (a b:List Nat) (q1 q2:Bool) (hA:A0 a) (hB:A0 b) (Qs:a.length+b.length<=1099511627776):Ev L 70 [.sl q1 (a.map AL),.sl q2 (b.map AL)] (.sl false ((dg (val a*val b)).map AL)):=by
 have l1:=EO hA;have l2:=EO hB;have d1:=DU (val a);have d2:=DU (val b);have v1:=BT (val a);have v2:=BT (val b);refine Ev.x N.LN rfl rfl ?_;have hz : ∀ p:Prop,((dg (val a)).length:Int)=0\/((dg (val b)).length:Int)=0->AJ (.sl false []) (.sl false ((dg (val a*val b)).map AL)):=λ_ h=>by
  have:val a*val b=0:=by
   rcases h with h|h
   ·have:dg (val a)=[]:=List.eq_nil_of_length_eq_zero (by omega)
    rw[bL.1 this,Nat.zero_mul]
   ·have:dg (val b)=[]:=List.eq_nil_of_length_eq_zero (by omega)
    rw[bL.1 this,Nat.mul_zero]
  exact AX (by rw[this,EU];rfl) (by simp only[A2,true_and];exact B5 _)
 (repeat' ((first|(apply AG<;>intro hc<;>try omega)|(apply AZ;omega)|apply AU|apply AE|refine JU (KA N a _ hA (by omega)) ?_|refine JU (KA N b _ hB (by omega)) ?_)<;>conv=>whnf))
 ·exact hz True (Or.inl hc)
 ·exact hz True (Or.inr hc)
 ·clear hz
  generalize dg (val a)=x at *;generalize dg (val b)=y at *;rw[<-v1,<-v2];have nq:x.length+y.length<=1099511627776:=by omega
  clear v1 v2 hA hB Qs l1 l2;refine EJ (enc:=AL) 0 (x.length+y.length) rfl (by omega) (by omega) ?_;(conv=>whnf)
  (repeat' (apply AU<;>conv=>whnf))
  refine JS (λ i _=>x.length-i) (λ(i:Nat) (o:List Nat)=>i<=x.length/\o.length=x.length+y.length/\A0 o/\val o=val (x.take i)*val y /\ ∀ k,i+y.length<=k->k<o.length->o[k]? = some 0) (λ i o=>[(34,.int .i64 i)]) (λ i o=>[(31,31,.rw 1 (o.map AL))]) 0 (List.replicate (x.length+y.length) 0) ⟨by omega,by simp,IG _,by simp [val,Z8],λ k h1 h2=>by simp at h2;simp [h2]⟩ ?_;intro i O ⟨p1,p2,p3,p4,p5⟩ ih;by_cases hi:i<x.length
  ·obtain ⟨d,hd⟩ : ∃ d,x[i]? = some d:=⟨_,zE hi⟩
   have bb:=d1.at hd;(repeat' ((first|(apply AG<;>intro hc<;>try omega)|(apply AZ;omega)|apply AU|(refine BA (by assumption) ?_ rfl ?_;omega)|apply AE)<;>conv=>whnf))
   ·refine BS [] (by (conv=>whnf);exact ⟨rfl,rfl,rfl⟩) (ih (i+1) O (by omega) ⟨by omega,p2,p3,?_,λ k h1 h2=>p5 k (by omega) h2⟩)
    rw[DX hd,p4,show d=0 by omega,Nat.mul_zero,Nat.add_zero]
   ·refine FV (λ j _ _=>y.length-j) (λ(j:Nat) (o:List Nat) (c:Nat)=>j<=y.length/\o.length=x.length+y.length/\A0 o/\c<4294967296/\val o+4294967296^(i+j)*c=val O+4294967296^i*(d*val (y.take j)) /\ ∀ k,i+j<=k->o[k]? = O[k]?) (λ j o c=>[(10,.int .u64 (c:Int)),(43,.int .i64 j)]) (λ j o c=>[(31,31,.rw 1 (o.map AL))]) 0 O 0 ⟨by omega,p2,p3,by omega,by simp [val],λ_ _=>rfl⟩ ?_
    intro j o c ⟨r1,r2,r3,r4,r5,r6⟩ jh;have e1:((i:Int)+j).toNat=i+j:=by omega
    by_cases hj:j<y.length
    ·obtain ⟨w,hw⟩ : ∃ w,y[j]? = some w:=⟨_,zE hj⟩
     have gx:=d2.at hw;have hm:=TC bb gx;(repeat' ((first|(apply AG<;>intro hc<;>try omega)|(apply AY;omega)|(apply AZ;omega)|(apply FR;omega)|(apply OM;omega)|(apply CF;omega)|apply FI|(refine BA (by assumption) ?_ rfl ?_;omega)|(refine jL (by assumption) ?_ (λ v hv hb => ?_);omega)|apply AE)<;>conv=>whnf))
     refine W3 (i+j) (by omega) (by omega) ?_;(conv=>whnf)
     (repeat' ((first|(apply AZ;omega)|apply FA)<;>conv=>whnf))
     refine BS [] (by (conv=>whnf);exact ⟨rfl,rfl,rfl⟩) (jh (j+1) _ _ (by omega) ⟨by omega,by simpa using r2,r3.set _ (by omega),by omega,?_,?_⟩)
     ·have h1:=Z5 (v:=(d*w+v+c)%4294967296) hv
      have h2:=OW 0 (4294967296^(i+j)) (d*w+v+c);rw[DX hw,show i+(j+1)=i+j+1 by omega,Nat.pow_succ (4294967296) (i+j)];have h3:4294967296^i*(d*(val (y.take j)+4294967296^j*w))=4294967296^i*(d*val (y.take j))+4294967296^(i+j)*(d*w):=by rw[Nat.pow_add];grind
      rw[h3];generalize 4294967296^(i+j)=P at *;rw[Nat.mul_add P,Nat.mul_add P]at h2;omega
     ·intro k hk
      rw[List.getElem?_set_ne (by omega)];exact r6 k (by omega)
    ·obtain rfl:j=y.length:=by omega
     clear jh;(repeat' ((first|(apply AG<;>intro hc<;>try omega)|(apply AY;omega)|(apply AZ;omega)|(apply EA;omega)|apply AU|apply AE)<;>conv=>whnf))
     have hz:=r6 (i+y.length) (by omega);rw[p5 (i+y.length) (by omega) (by omega)]at hz;refine W3 (i+y.length) (by omega) (by omega) ?_;(conv=>whnf)
     (repeat' ((first|(apply AZ;omega)|fail)<;>conv=>whnf))
     refine BS [] (by (conv=>whnf);exact ⟨rfl,rfl,rfl⟩) (ih (i+1) _ (by omega) ⟨by omega,by simpa using r2,r3.set _ (by omega),?_,?_⟩)
     ·have h1:=Z5 (v:=c) hz
      rw[Nat.mul_zero,Nat.add_zero]at h1;rw[h1,r5,p4,C3 (Nat.le_refl _),DX hd,Nat.add_mul,Nat.mul_assoc]
     ·intro k h1 h2
      rw[List.length_set]at h2;rw[List.getElem?_set_ne (by omega),r6 k (by omega)];exact p5 k (by omega) (by omega)
  ·obtain rfl:i=x.length:=by omega
   clear ih;rw[C3 (Nat.le_refl _)]at p4;rw[<-p4,<-p2];(repeat' ((first|(apply AG<;>intro hc<;>try omega)|apply AE)<;>conv=>whnf))
   clear p5;refine FW 1000 N.FF rfl rfl ?_;(repeat' (apply AE<;>conv=>whnf))
   refine EI (λ n=>n) (λ(n:Nat)=>n<=(O).length /\ ∀ i,n<=i->i<(O).length->(O)[i]? = some 0) (λ n=>[(3,.int .i64 n)]) (λ_=>[]) [] [] (O).length (by first|exact (by (conv=>whnf);exact ⟨rfl,rfl,rfl⟩)|(simp only[List.length_set,List.length_replicate];exact (by (conv=>whnf);exact ⟨rfl,rfl,rfl⟩))) ⟨Nat.le_refl _,λ i h1 h2=>by omega⟩ ?_;intro n ⟨p1,p2⟩ ih;rcases n with _|n
   ·(repeat' ((first|(apply AG<;>intro hc<;>try omega)|apply AE)<;>conv=>whnf))
    refine GY 0 (by omega) (by omega) ?_;(conv=>whnf)
    refine ⟨rfl,_,rfl,?_⟩;(conv=>whnf)
    have hm:=p1;have az:=F2 (l:=O) (by assumption) p1 p2 (Or.inl rfl);clear ih p1 p2;(refine HD (enc:=AL) (λ_=>rfl) (by omega) ?_;(conv=>whnf);exact AX (by rw[<-az];rfl) (by simp only[A2,true_and];exact B5 _))
   ·have e1:((n+1:Nat):Int)-1=n:=by omega
    (repeat' ((first|(apply AG<;>intro hc<;>try omega)|(apply AY;omega)|(apply B1;omega)|(refine QP (by assumption) ?_ (λ v hv hb => ?_);omega)|apply AE)<;>conv=>whnf))
    ·rw[e1]
     exact BM [] (ih n (by omega) ⟨by omega,λ i h1 h2=>by
      by_cases h:i=n
      ·subst h
       rw[e1,Int.toNat_natCast]at hv;rw[hv];congr 1;omega
      ·exact p2 i (by omega) h2⟩)
    ·refine GY (n+1) (by omega) (by omega) ?_
     (conv=>whnf)
     refine ⟨rfl,_,rfl,?_⟩;(conv=>whnf)
     rw[e1,Int.toNat_natCast]at hv;have hm:=p1;have az:=F2 (l:=O) (by assumption) p1 p2 (Or.inr ⟨_,hv,by omega⟩);clear ih p1 p2 hv;(refine HD (enc:=AL) (λ_=>rfl) (by omega) ?_;(conv=>whnf);exact AX (by rw[<-az];rfl) (by simp only[A2,true_and];exact B5 _))
end Go.b8
