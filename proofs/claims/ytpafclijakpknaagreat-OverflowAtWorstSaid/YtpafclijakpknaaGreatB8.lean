/-
  Greatest common divisors, plain: leading bits, combinations.
-/
import Derived.Test.YtpafclijakpknaaGreatB2
import Derived.Test.YtpafclijakpknaaGreatB7
import Derived.Test.YtpafclijakpknaaGreatB1
set_option linter.unusedSimpArgs false
set_option linter.unusedVariables false
set_option linter.unnecessarySimpa false
namespace Go.b8
def fR (n s:Nat):Nat:=4294967296^(n-3)*(2^(32-s)*4)
theorem AoC (n s:Nat):0<fR n s:=Nat.mul_pos (Nat.pow_pos (by omega)) (Nat.mul_pos (Nat.two_pow_pos _) (by omega))
theorem Ad8 {a:List Nat} (hD:B9 a) {n s d1 d2 d3:Nat} (hn:3<=n) (hl:a.length<=n) (hs:s<=31) (h1:d1=a.getD (n-1) 0) (h2:d2=a.getD (n-2) 0) (h3:d3=a.getD (n-3) 0) :
  ((d1*4294967296+d2)*2^s+d3*2^s/4294967296)/4=val a/fR n s:=by
 obtain ⟨r,hr,hv⟩:=rT hD hn hl;rw[<-h1,<-h2,<-h3]at hv;unfold fR;rw[hv,<-Nat.div_div_eq_div_mul,Nat.add_mul_div_left _ _ (Nat.pow_pos (by omega)),Nat.div_eq_of_lt hr,Nat.zero_add,<-Nat.div_div_eq_div_mul];congr 1;have e:d3+4294967296*(d2+4294967296*d1)=d3+2^(32-s)*(2^s*(d1*4294967296+d2)):=by
  rw[<-Nat.mul_assoc,<-Nat.pow_add,show 32-s+s=32 by omega];omega
 rw[e,Nat.add_mul_div_left _ _ (Nat.two_pow_pos _)];have:=AfQ (d:=d3) (s:=s) (by omega)
 rw[cU]at this;rw[this,Nat.mul_comm (2^s)];omega
theorem Ad9 {a:List Nat} (hD:B9 a) {n s d1 d2:Nat} (hn:3<=n) (hl:a.length<=n) (h1:d1=a.getD (n-1) 0) (h2:d2=a.getD (n-2) 0) (l7:val a*2^s<4294967296^n) :
  (d1*4294967296+d2)*2^s<=18446744073709551615:=by
 obtain ⟨r,hr,hv⟩:=rT hD hn hl;rw[<-h1,<-h2]at hv;generalize a.getD (n-3) 0=d3 at *;have e:4294967296^n=4294967296^(n-3)*(4294967296*18446744073709551616):=by
  rw[show n=n-3+3 by omega,Nat.pow_add,show n-3+3-3=n-3 by omega]
 rw[e,hv]at l7;generalize 4294967296^(n-3)=p at *;have h3:p*(4294967296*((d1*4294967296+d2)*2^s))<p*(4294967296*18446744073709551616):=by
  refine Nat.lt_of_le_of_lt ?_ l7;rw[<-Nat.mul_assoc,<-Nat.mul_assoc];refine zR _ ?_;have h5:p*(4294967296*(d2+4294967296*d1))<=p*(d3+4294967296*(d2+4294967296*d1)):=Nat.mul_le_mul_left p (by omega);rw[Nat.mul_assoc,show d1*4294967296+d2=d2+4294967296*d1 by omega];omega
 have:=Nat.lt_of_mul_lt_mul_left (Nat.lt_of_mul_lt_mul_left h3)
 omega
theorem pU {k s:Nat} (hs:s<=64) (h:k*2^s<=18446744073709551615):k*2^s+2^s<=18446744073709551616:=by
 have e:18446744073709551616=2^(64-s)*2^s:=by rw[<-Nat.pow_add,show 64-s+s=64 by omega]
 have h1:k<2^(64-s):=by
  refine Nat.lt_of_mul_lt_mul_right (a:=2^s) ?_;rw[<-e];omega
 have h2:=zR (2^s) h1;rw[Nat.succ_mul,<-e]at h2;exact h2
theorem Aec {a:List Nat} (hD:B9 a) {n s:Nat} (hn:3<=n) (hl:a.length<=n) (hs:s<=31) (l7:val a*2^s<4294967296^n):val a/fR n s<=4611686018427387904:=by
 rw[<-Ad8 hD hn hl hs rfl rfl rfl];have h1:=Ad9 hD hn hl rfl rfl l7;have b3:=Z4 hD (n-3);have h2:=pU (show s<=64 by omega) h1;obtain ⟨_,h3,_,_⟩:=cX (s:=s) b3 (by omega);rw[cU]at h3;generalize (a.getD (n-1) 0*4294967296+a.getD (n-2) 0)*2^s=T at *;generalize a.getD (n-3) 0*2^s=U at *;omega
theorem Aed {V K:Nat} (hK:0<K) : ∃ e:Int,(V:Int)=(K:Int)*((V/K:Nat):Int)+e/\0<=e/\e<=K:=by
 refine ⟨((V%K:Nat):Int),?_,by omega,?_⟩
 ·have:=Nat.div_add_mod V K
  have h2:((K*(V/K)+V%K:Nat):Int)=(V:Int):=by rw[this]
  rw[<-h2];simp
 ·have:=Nat.mod_lt V hK
  omega
def jE (t:Int):Nat:=(t%4294967296).toNat
theorem Abv (t:Int):jE t<4294967296:=by unfold jE;omega
theorem tO (t:Int):(jE t:Int)=t%4294967296:=by unfold jE;omega
def ZG (f g:Int):Prop:=(0<=f/\f<=2147483647 /\ -2147483647<=g/\g<=0)\/(-2147483647<=f/\f<=0/\0<=g/\g<=2147483647)
theorem AfO {f:Int} {d:Nat} (hd:d<4294967296):(0<=f->f<=2147483647->0<=f*d/\f*d<=9223372030412324865)/\(f<=0 -> -2147483647<=f->f*d<=0 /\ -9223372030412324865<=f*d):=by
 constructor
 ·intro h0 h1
  refine ⟨Int.mul_nonneg h0 (by omega),?_⟩;have:f*d<=2147483647*4294967295:=Int.mul_le_mul h1 (by omega) (by omega) (by omega)
  omega
 ·intro h0 h1
  have a1:0<=(-f)*d:=Int.mul_nonneg (by omega) (by omega);have a2:(-f)*d<=2147483647*4294967295:=Int.mul_le_mul (by omega) (by omega) (by omega) (by omega);rw[Int.neg_mul]at a1 a2;omega
theorem ZG.rng {f g:Int} (h:ZG f g) {d e:Nat} (hd:d<4294967296) (he:e<4294967296):(-9223372030412324865<=f*d/\f*d<=9223372030412324865)/\(-9223372030412324865<=g*e/\g*e<=9223372030412324865) /\ -9223372030412324865<=f*d+g*e/\f*d+g*e<=9223372030412324865:=by
 obtain ⟨a1,a2⟩:=AfO (f:=f) hd;obtain ⟨b1,b2⟩:=AfO (f:=g) he;rcases h with ⟨h1,h2,h3,h4⟩|⟨h1,h2,h3,h4⟩
 ·have:=a1 h1 h2;have:=b2 h4 h3;omega
 ·have:=a2 h2 h1;have:=b1 h3 h4;omega
theorem Abw {V X Y p c f g d e t:Int} (h:V+p*c=f*X+g*Y) (ht:t=f*d+c+g*e):V+p*(t%4294967296)+p*4294967296*(t/4294967296)=f*(X+p*d)+g*(Y+p*e):=by
 have h1:=Int.emod_add_mul_ediv t 4294967296;have h2:p*(t%4294967296)+p*4294967296*(t/4294967296)=p*t:=by
  rw[Int.mul_assoc,<-Int.mul_add,h1]
 have h3:p*t=f*(p*d)+p*c+g*(p*e):=by rw[ht];grind
 have h4:f*(X+p*d)=f*X+f*(p*d):=by rw[Int.mul_add]
 have h5:g*(Y+p*e)=g*Y+g*(p*e):=by rw[Int.mul_add]
 omega
theorem AjO {V P:Nat} {c R:Int} (hV:V<P) (h:(V:Int)+P*c=R) (h0:0<=R) (h1:R<P):(V:Int)=R:=by
 have hc:c=0:=by
  rcases Int.lt_trichotomy c 0 with hc|hc|hc
  ·have:(P:Int)*c<=P*(-1):=Int.mul_le_mul_of_nonneg_left (by omega) (by omega)
   omega
  ·exact hc
  ·have:(P:Int)*1<=P*c:=Int.mul_le_mul_of_nonneg_left (by omega) (by omega)
   omega
 subst hc;omega
theorem kJ (x y:Nat):Nat.gcd y (x%y)=Nat.gcd x y:=by
 rw[Nat.gcd_comm x y,Nat.gcd_rec y x];exact Nat.gcd_comm _ _
def zv (neg:Bool) (m:List Nat):Int:=bif neg then -(val m:Int) else (val m:Int)
abbrev rZ (q neg:Bool) (m:List Nat):List AV:=[.bool neg,.sl q (m.map BF)]
abbrev eZ (z:Int):List AV:=rZ false (decide (z<0)) (dg z.natAbs)
theorem JG (neg:Bool) (m:List Nat):(zv neg m).natAbs=val m:=by cases neg<;>simp [zv]
theorem J1 (z:Int):zv (decide (z<0)) (dg z.natAbs)=z:=by
 unfold zv;rw[EA];by_cases h:z<0
 ·simp [h];omega
 ·simp [h];omega
def Sm (n:Nat) (m:List Nat):Prop:=B9 m/\m.length<=n
theorem Sm.dg {n V:Nat} (h:V<4294967296^n):Sm n (dg V):=⟨HW V,W9.2 h⟩
theorem Sm.le {n n':Nat} {m:List Nat} (h:Sm n m) (hn:n<=n'):Sm n' m:=⟨h.1,by have:=h.2;omega⟩
theorem Sm.val {n:Nat} {m:List Nat} (h:Sm n m):val m<4294967296^n:=Nat.lt_of_lt_of_le (JM h.1) (Nat.pow_le_pow_right (by omega) h.2)
theorem Sm.Bc {n:Nat} {m:List Nat} (h:Sm n m):Sm n (Go.b8.dg (Go.b8.val m)):=Sm.dg h.val
theorem I0 {z:Int} {b:Bool} {n:Nat} (h1:n=z.natAbs) (h2:b=decide (z<0)):AV.agg [.bool b,.sl false ((dg n).map BF)] = .agg (eZ z):=by rw[h1,h2]
theorem HH (z:Int):B3 (.agg (eZ z)):=by
 simp only[B3,EC,and_true,true_and];exact GC _
theorem V5 {z:Int} (h:z<0):true=decide (z<0):=by simp [h]
theorem LR {z:Int} (h:0<=z):false=decide (z<0):=by simp;omega
theorem AfW (n:Nat):Sm n []:=⟨eH,Nat.zero_le _⟩
theorem zJ {n d:Nat} (hn:1<=n) (hd:d<4294967296):Sm n [d]:=⟨MS hd,hn⟩
theorem Aho (b:Bool):zv b []=0:=by cases b<;>rfl
theorem Sm.low {n V:Nat} {m:List Nat} (h:Sm n m) (hV:V<=Go.b8.val m):Sm n (Go.b8.dg V):=Sm.dg (Nat.lt_of_le_of_lt hV h.val)
theorem Sm.mul {n k:Nat} {a b:List Nat} (ha:Sm n a) (hb:Sm k b) {V:Nat} (hV:V=Go.b8.val a*Go.b8.val b):Sm (n+k) (Go.b8.dg V):=by
 refine Sm.dg ?_;rw[hV,Nat.pow_add];exact Nat.mul_lt_mul_of_le_of_lt (Nat.le_of_lt ha.val) hb.val (Nat.pow_pos (by omega))
theorem Sm.add {n:Nat} {a b:List Nat} (ha:Sm n a) (hb:Sm n b) {V:Nat} (hV:V<=Go.b8.val a+Go.b8.val b):Sm (n+1) (Go.b8.dg V):=by
 refine Sm.dg ?_;have h1:=ha.val;have h2:=hb.val;rw[Nat.pow_succ];omega
theorem NV (V:Nat):(dg V).length=0↔V=0:=by rw[List.length_eq_zero_iff,uB]
theorem I7 (m:List Nat):zv false m=(val m:Int):=rfl
theorem X5 (m:List Nat):zv true m = -(val m:Int):=rfl
def v9 (z:Int):Int:=if z<0 then -1 else if 0<z then 1 else 0
theorem zF {z:Int} (h:z<0) : -1=v9 z:=by unfold v9;rw[if_pos h]
theorem zG {z:Int} (h:0<z):1=v9 z:=by unfold v9;rw[if_neg (by omega),if_pos h]
theorem qV {z:Int} (h:z=0):0=v9 z:=by unfold v9;rw[if_neg (by omega),if_neg (by omega)]
theorem AgZ {n:Nat} (h:n<18446744073709551616):val [n%4294967296,n/4294967296]=n:=(by simp [val];omega)
abbrev rQ (q1 q2 n:Bool) (m d:List Nat):List AV:=[.bool n,.sl q1 (m.map BF),.sl q2 (d.map BF)]
abbrev eQ (x:Rat):List AV:=rQ false false (decide (x.num<0)) (dg x.num.natAbs) (dg x.den)
def qv (n:Bool) (m d:List Nat):Rat:=mkRat (zv n m) (val d)
theorem JS (x:Rat):qv (decide (x.num<0)) (dg x.num.natAbs) (dg x.den)=x:=by
 unfold qv;rw[J1,EA,Rat.mkRat_self]
theorem AdF {d:Nat} (z:Nat) (hd:d≠0):0<Nat.gcd d z:=Nat.gcd_pos_of_pos_left z (by omega)
theorem xK {z:Int} {d:Nat} (hd:d≠0):(mkRat z d).num.natAbs=z.natAbs/Nat.gcd d z.natAbs/\(mkRat z d).den=d/Nat.gcd d z.natAbs/\decide ((mkRat z d).num<0)=decide (z<0):=by
 have hg:=AdF z.natAbs hd;have h1:=Rat.num_mkRat z d;have h2:=Rat.den_mkRat z d;rw[if_neg hd]at h1 h2;rw[h1,h2];obtain ⟨k,hk⟩:=Nat.gcd_dvd_right d z.natAbs;generalize hG:Nat.gcd d z.natAbs=g at *;have hz:z=(g:Int)*(z.sign*k):=by
  rw[<-Int.mul_assoc,Int.mul_comm (g:Int),Int.mul_assoc,<-Int.natCast_mul,<-hk,Int.sign_mul_natAbs]
 have e1:z/(g:Int)=z.sign*k:=by
  rw[hz,Int.mul_ediv_cancel_left _ (by omega),<-hz]
 refine ⟨?_,rfl,?_⟩
 ·rw[e1,Int.natAbs_mul,hk,Nat.mul_div_cancel_left _ hg]
  by_cases h0:z=0
  ·subst h0
   have:k=0:=by
    have h5:g*k=0:=hk.symm;rcases Nat.mul_eq_zero.1 h5 with h|h
    ·omega
    ·exact h
   subst this;simp
  ·rw[Int.natAbs_sign_of_ne_zero h0,Nat.one_mul];simp
 ·congr 1
  rw[eq_iff_iff];rw[Int.ediv_lt_iff_lt_mul (by omega),Int.zero_mul]
theorem GD (x:Rat):B3 (.agg (eQ x)):=by
 simp only[B3,EC,and_true,true_and];exact ⟨GC _,GC _⟩
theorem jA (b w:Bool) (m d:List Nat):B3 (.agg [.bool b,.sl false (m.map BF),.sl false (d.map BF),.bool w]):=by
 simp only[B3,EC,and_true,true_and];exact ⟨GC _,GC _⟩
theorem Abm (b:Bool) (m:List Nat):B3 (.agg [.bool b,.sl false (m.map BF)]):=by
 simp only[B3,EC,and_true,true_and];exact GC _
theorem nP (b:Bool) (m d:List Nat):B3 (.agg [.bool b,.sl false (m.map BF),.sl false (d.map BF)]):=by
 simp only[B3,EC,and_true,true_and];exact ⟨GC _,GC _⟩
theorem kH (q:Bool) (l:List Nat):iN (.sl q (l.map BF)):=by
 intro e he c hc;obtain ⟨x,_,rfl⟩:=List.mem_map.1 he;simp at hc;subst hc;rfl
theorem sC {r:AV} {K:AV->Prop} (h:NN r) (hk:K (Dc r)):EE r K:=⟨Or.inl h,by rw[xB h];exact hk⟩
theorem Yf {r:AV} {K:AV->Prop} (h : ¬ NN r) (hd:aO r) (hk:K (P0 r)):EE r K:=⟨Or.inr hd,by rw[xA h];exact hk⟩
theorem L9 {b w q1 q2:Bool} {m d:List Nat} {K:AV->Prop} (hk:K (.agg [.bool b,.sl true (m.map BF),.sl true (d.map BF),.bool w])):EE (.agg [.bool b,.sl q1 (m.map BF),.sl q2 (d.map BF),.bool w]) K:=by
 refine sC ?_ hk;intro c hc;simp only[List.mem_cons,List.not_mem_nil,or_false]at hc;rcases hc with rfl|rfl|rfl|rfl
 ·trivial
 ·exact kH _ _
 ·exact kH _ _
 ·trivial
theorem Yg {b q1 q2:Bool} {m d:List Nat} {K:AV->Prop} (hk:K (.agg [.bool b,.sl true (m.map BF),.sl true (d.map BF)])):EE (.agg [.bool b,.sl q1 (m.map BF),.sl q2 (d.map BF)]) K:=by
 refine sC ?_ hk;intro c hc;simp only[List.mem_cons,List.not_mem_nil,or_false]at hc;rcases hc with rfl|rfl|rfl
 ·trivial
 ·exact kH _ _
 ·exact kH _ _
theorem aR {b q1:Bool} {m:List Nat} {K:AV->Prop} (hk:K (.agg [.bool b,.sl true (m.map BF)])):EE (.agg [.bool b,.sl q1 (m.map BF)]) K:=by
 refine sC ?_ hk;intro c hc;simp only[List.mem_cons,List.not_mem_nil,or_false]at hc;rcases hc with rfl|rfl
 ·trivial
 ·exact kH _ _
theorem pR {a b:Int} {d e:Nat} (hd:d≠0) (he:e≠0):mkRat a d+mkRat b e=mkRat (a*e+b*d) (d*e):=Rat.mkRat_add_mkRat a b hd he
theorem AeJ {a b:Int} {d:Nat} (hd:d≠0):mkRat a d+mkRat b d=mkRat (a+b) d:=by
 rw[pR hd hd,<-Int.add_mul,Rat.mkRat_mul_right hd]
theorem xI (a b:Int) (d e:Nat):mkRat a d*mkRat b e=mkRat (a*b) (d*e):=Rat.mkRat_mul_mkRat a b d e
theorem AeL (a:Int):mkRat a 1=(a:Rat):=by
 have h:=Rat.mkRat_self (a:Rat);rw[Rat.num_intCast,Rat.den_intCast]at h;exact h
theorem xJ {z:Int} {d:Nat} (hd:d≠0):mkRat z d=0↔z=0:=Rat.mkRat_eq_zero hd
theorem AeM {z:Int} {d:Nat} (hd:d≠0):v9 (mkRat z d).num=v9 z:=by
 obtain ⟨_,_,h⟩:=xK (z:=z) hd;have h0:(mkRat z d).num=0↔z=0:=by rw[Rat.num_eq_zero,xJ hd]
 have h1:(mkRat z d).num<0↔z<0:=by simpa using h
 unfold v9;by_cases a:z<0
 ·rw[if_pos a,if_pos (h1.2 a)]
 ·rw[if_neg a,if_neg (λ h=>a (h1.1 h))]
  by_cases b:z=0
  ·rw[if_neg (by omega),if_neg (by have:=h0.2 b;omega)]
  ·rw[if_pos (by omega),if_pos (by have:=mt h0.1 b;have:=mt h1.1 a;omega)]
theorem AoW {a b:Int} {d e:Nat} (hd:d≠0) (he:e≠0) (hb:b≠0):mkRat a d/mkRat b e=mkRat (b.sign*(a*e)) (d*b.natAbs):=by
 have hbn:b.natAbs≠0:=by omega
 have h1:mkRat b e≠0:=λ h=>hb ((xJ he).1 h)
 have key:mkRat (b.sign*(a*e)) (d*b.natAbs)*mkRat b e=mkRat a d:=by
  rw[xI];have e1:b.sign*(a*e)*b=a*((b.natAbs*e:Nat):Int):=by
   have:=Int.sign_mul_self b
   rw[Int.natCast_mul,<-this];grind
  rw[e1,show d*b.natAbs*e=d*(b.natAbs*e) by rw[Nat.mul_assoc]];exact Rat.mkRat_mul_right (Nat.mul_ne_zero hbn he)
 rw[<-key,Rat.mul_div_cancel h1]
theorem Ahp {x y:Int} (hy:y≠0):zv (decide (x<0) != decide (y<0)) (dg x.natAbs)=y.sign*x:=by
 unfold zv;rw[EA];rcases Int.lt_or_gt_of_ne hy with h|h
 ·rw[Int.sign_eq_neg_one_of_neg h]
  by_cases hx:x<0
  ·simp [hx,h];omega
  ·simp [hx,h];omega
 ·rw[Int.sign_eq_one_of_pos h]
  by_cases hx:x<0
  ·simp [hx,show ¬ y<0 by omega];omega
  ·simp [hx,show ¬ y<0 by omega];omega
def Bt (k:Nat) (x:Rat):Prop:=x.num.natAbs<=2^k/\x.den<=2^k
theorem Bt.le {k l:Nat} {x:Rat} (h:Bt k x) (hl:k<=l):Bt l x:=by
 have:=Nat.pow_le_pow_right (show 0<2 by omega) hl
 exact ⟨Nat.le_trans h.1 this,Nat.le_trans h.2 this⟩
theorem Bt.mk {k:Nat} {z:Int} {d:Nat} (hz:z.natAbs<=2^k) (hd:d<=2^k):Bt k (mkRat z d):=by
 by_cases h0:d=0
 ·subst h0
  rw[Rat.mkRat_zero];exact ⟨by simp,by simp;exact Nat.one_le_two_pow⟩
 ·obtain ⟨e1,e2,_⟩:=xK (z:=z) h0
  unfold Bt;rw[e1,e2];exact ⟨Nat.le_trans (Nat.div_le_self _ _) hz,Nat.le_trans (Nat.div_le_self _ _) hd⟩
theorem Bt.add {k l:Nat} {x y:Rat} (hx:Bt k x) (hy:Bt l y):Bt (k+l+1) (x+y):=by
 rw[Rat.add_def'];refine Bt.mk ?_ ?_
 ·have h1:(x.num*y.den).natAbs<=2^k*2^l:=by rw[Int.natAbs_mul,Int.natAbs_natCast];exact Nat.mul_le_mul hx.1 hy.2
  have h2:(y.num*x.den).natAbs<=2^l*2^k:=by rw[Int.natAbs_mul,Int.natAbs_natCast];exact Nat.mul_le_mul hy.1 hx.2
  rw[Nat.mul_comm (2^l)]at h2;rw[Nat.pow_succ,Nat.pow_add];have h3:=Int.natAbs_add_le (x.num*y.den) (y.num*x.den);omega
 ·rw[Nat.pow_succ,Nat.pow_add]
  have:=Nat.mul_le_mul hx.2 hy.2
  omega
theorem Bt.mul {k l:Nat} {x y:Rat} (hx:Bt k x) (hy:Bt l y):Bt (k+l) (x*y):=by
 rw[Rat.mul_def'];refine Bt.mk ?_ ?_
 ·rw[Int.natAbs_mul,Nat.pow_add];exact Nat.mul_le_mul hx.1 hy.1
 ·rw[Nat.pow_add];exact Nat.mul_le_mul hx.2 hy.2
theorem Bt.zero (k:Nat):Bt k 0:=⟨by simp,by simp;exact Nat.one_le_two_pow⟩
theorem Bt.one (k:Nat):Bt k 1:=⟨by simp;exact Nat.one_le_two_pow,by simp;exact Nat.one_le_two_pow⟩
theorem Bt.dig {k n:Nat} {x:Rat} (h:Bt k x) (hn:k<32*n):Sm n (dg x.num.natAbs)/\Sm n (dg x.den):=by
 have e:2^k<4294967296^n:=by
  rw[show 4294967296=2^32 from rfl,<-Nat.pow_mul];exact (Nat.pow_lt_pow_iff_right (by omega)).2 hn
 exact ⟨Sm.dg (Nat.lt_of_le_of_lt h.1 e),Sm.dg (Nat.lt_of_le_of_lt h.2 e)⟩
def Bs (k:Nat) (l:List Rat):Prop := ∀ x∈l,Bt k x
theorem Bs.at {k:Nat} {l:List Rat} (h:Bs k l) {i:Nat} {x:Rat} (hx:l[i]? = some x):Bt k x:=h x (zM hx)
theorem Bs.le {k j:Nat} {l:List Rat} (h:Bs k l) (hj:k<=j):Bs j l:=λ x hx=>(h x hx).le hj
theorem Bs.take {k:Nat} {l:List Rat} (h:Bs k l) (n:Nat):Bs k (l.take n):=λ x hx=>h x (List.mem_of_mem_take hx)
def CI:List Rat->List Rat->Rat
 | x::xs,y::ys=>x*y+CI xs ys
 | _,_=>0
theorem jO (l:List Rat):CI l []=0:=by cases l<;>rfl
theorem Zn : ∀ {a b:List Rat} {x y:Rat},a.length=b.length->CI (a++[x]) (b++[y])=CI a b+x*y
 | [],[],x,y,_=>by show x*y+0=0+x*y;rw[Rat.add_zero,Rat.zero_add]
 | p::a,q::b,x,y,h=>by
  show p*q+CI (a++[x]) (b++[y])=p*q+CI a b+x*y;rw[Zn (by simpa using h),Rat.add_assoc]
theorem eI {a b:List Rat} {i:Nat} {x y:Rat} (hx:a[i]? = some x) (hy:b[i]? = some y):CI (a.take (i+1)) (b.take (i+1))=CI (a.take i) (b.take i)+x*y:=by
 have h1:=(zS hx).1;have h2:=(zS hy).1;rw[List.take_add_one,List.take_add_one,hx,hy,Option.toList_some,Option.toList_some,Zn (by rw[List.length_take,List.length_take];omega)]
theorem jN {a b:List Rat} {n:Nat} (h:a.length=n):CI (a.take n) (b.take n)=CI a b:=by
 subst h;rw[zT (Nat.le_refl _)];induction a generalizing b with
 | nil=>cases b<;>rfl
 | cons x a ih=>cases b with
  | nil=>rfl
  | cons y b=>simp only[List.length_cons,List.take_succ_cons,CI,ih]
theorem Bs.dot {k l:Nat} : ∀ {a b:List Rat},Bs k a->Bs l b->Bt (a.length*(k+l+1)) (CI a b)
 | [],b,_,_=>by cases b<;>exact Bt.zero _
 | x::a,[],_,_=>Bt.zero _
 | x::a,y::b,ha,hb=>by
  have h1:=(ha x (by simp)).mul (hb y (by simp));have h2:=Bs.dot (a:=a) (b:=b) (λ z hz=>ha z (by simp [hz])) (λ z hz=>hb z (by simp [hz]));refine (h1.add h2).le ?_;rw[List.length_cons,Nat.succ_mul];omega
def OO (a b:List Rat):List Rat:=List.zipWith (· + ·) a b
theorem oF : ∀ {a u v:List Rat},u.length=v.length->CI a (OO u v)=CI a u+CI a v
 | [],_,_,_=>by simp only[CI];rw[Rat.add_zero]
 | x::a,[],[],_=>by simp only[OO,List.zipWith_nil_left,CI];rw[Rat.add_zero]
 | x::a,p::u,q::v,h=>by
  show x*(p+q)+CI a (OO u v)=_;rw[oF (by simpa using h)];simp only[CI];grind
structure FQ where
 a:List (List Rat)
 b:List Rat
 c:List Rat
 d:Rat
structure FQ.Ok (S:FQ) (n k:Nat):Prop where
 la:S.a.length=n
 lr : ∀ r∈S.a,r.length=n
 lb:S.b.length=n
 lc:S.c.length=n
 ba : ∀ r∈S.a,Bs k r
 bb:Bs k S.b
 bc:Bs k S.c
 bd:Bt k S.d
def FQ.out (S:FQ) (now:List Rat) (x:Rat):Rat:=CI S.c now+S.d*x
def gD (now:List Rat) (x:Rat):List (List Rat)->List Rat->List Rat
 | r::a,b::bs=>(CI r now+b*x)::gD now x a bs
 | _,_=>[]
def FQ.next (S:FQ) (now:List Rat) (x:Rat):List Rat:=gD now x S.a S.b
def FQ.state (S:FQ):List Rat->List Rat->List Rat
 | now,[]=>now
 | now,x::xs=>S.state (S.next now x) xs
def FQ.outs (S:FQ):List Rat->List Rat->List Rat
 | _,[]=>[]
 | now,x::xs=>S.out now x::S.outs (S.next now x) xs
theorem AeT (now:List Rat) (x:Rat) : ∀ (a:List (List Rat)) (b:List Rat),a.length=b.length->(gD now x a b).length=a.length
 | [],[],_=>rfl
 | r::a,y::b,h=>by simp only[gD,List.length_cons];rw[AeT now x a b (by simpa using h)]
theorem xR (now:List Rat) (x:Rat) : ∀ (a:List (List Rat)) (b:List Rat) (i:Nat) (r:List Rat) (y:Rat),a[i]? = some r->b[i]? = some y->(gD now x a b)[i]? = some (CI r now+y*x)
 | [],_,i,r,y,h,_=>by simp at h
 | _::_,[],i,r,y,_,h=>by simp at h
 | r0::a,y0::b,0,r,y,h,h'=>by
  simp at h h';subst h;subst h';rfl
 | r0::a,y0::b,i+1,r,y,h,h'=>by
  simp only[gD,List.getElem?_cons_succ]at h h' ⊢;exact xR now x a b i r y h h'
theorem Agh (S:FQ) (x:Rat) : ∀ (xs now:List Rat),S.state now (xs++[x])=S.next (S.state now xs) x
 | [],_=>rfl
 | y::xs,now=>Agh S x xs (S.next now y)
theorem Afd (S:FQ) (x:Rat) : ∀ (xs now:List Rat),S.outs now (xs++[x])=S.outs now xs++[S.out (S.state now xs) x]
 | [],_=>rfl
 | y::xs,now=>by
  show S.out now y::S.outs (S.next now y) (xs++[x])=_;rw[Afd S x xs (S.next now y)];rfl
theorem yD (S:FQ) : ∀ (xs now:List Rat),(S.outs now xs).length=xs.length
 | [],_=>rfl
 | y::xs,now=>by simp only[FQ.outs,List.length_cons,yD S xs]
theorem FQ.Ok.mq {S:FQ} {n k:Nat} (h:S.Ok n k) (now:List Rat) (x:Rat):(S.next now x).length=n:=by
 unfold FQ.next;rw[AeT _ _ _ _ (by rw[h.la,h.lb]),h.la]
theorem FQ.Ok.nv {S:FQ} {n k:Nat} (h:S.Ok n k) : ∀ (xs now:List Rat),now.length=n->(S.state now xs).length=n
 | [],_,hn=>hn
 | x::xs,now,_=>h.nv xs _ (h.mq now x)
def LM:Nat->List Rat
 | 0=>[]
 | n+1=>1::List.replicate n 0
theorem Z7 (n:Nat):(LM n).length=n:=by cases n<;>simp [LM]
theorem AdX (k n:Nat):Bs k (LM n):=by
 intro x hx;cases n with
 | zero=>simp [LM]at hx
 | succ n =>
  simp only[LM,List.mem_cons,List.mem_replicate]at hx;rcases hx with rfl|⟨_,rfl⟩
  ·exact Bt.one k
  ·exact Bt.zero k
def EU (n:Nat) (j:Int):List Rat:=(List.range n).map λ i:Nat=>if (i:Int)=j then 1 else 0
theorem Y5 (n:Nat) (j:Int):(EU n j).length=n:=by simp [EU]
theorem Arp (n:Nat) (j:Int):EU (n+1) j=EU n j++[if (n:Int)=j then 1 else 0]:=by simp [EU,List.range_succ]
theorem Arm (n:Nat):EU n (-1)=List.replicate n 0:=by
 refine List.ext_getElem? λ i => ?_
 simp only[EU,List.getElem?_map,List.getElem?_replicate,List.getElem?_range];by_cases h:i<n
 ·rw[List.getElem?_range h,if_pos h]
  simp
 ·rw[List.getElem?_eq_none (by simp;omega),if_neg h];rfl
abbrev eO:Option Rat->List AV
 | none=>[.bool false,.nil,.nil]
 | some x=>eQ x
def GU (l:List Rat) (m:Nat):List (Option Rat):=l.map some++List.replicate (m-l.length) none
theorem QY (m:Nat):GU [] m=List.replicate m none:=by simp [GU]
theorem OU {l:List Rat} {m:Nat} (h:l.length<=m):(GU l m).length=m:=by simp [GU];omega
theorem PZ {l:List Rat} {m:Nat} {x:Rat} (h:l.length<m):(GU l m).set l.length (some x)=GU (l++[x]) m:=by
 unfold GU;have e:m-l.length=(m-(l++[x]).length)+1:=by simp;omega
 rw[e,List.replicate_succ,List.set_append_right _ _ (by simp)];simp
theorem QX {l:List Rat} {m:Nat} (h:l.length=m):(GU l m).map eO=l.map eQ:=by
 unfold GU;rw[h,Nat.sub_self];simp [Function.comp_def]
abbrev eS (S:FQ):List AV:=[.sl false (S.a.map λ r=>[AV.sl false (r.map eQ)]),.sl false (S.b.map eQ),.sl false (S.c.map eQ)]++eQ S.d
theorem LW (l:List Rat):IH (l.map eQ):=ZR (λ x=>by simp only[EC,B3,and_true,true_and];exact ⟨GC _,GC _⟩) l
theorem lY {l:List Rat} {i:Nat} {x:Rat} (h:l[i]? = some x):l.take (i+1)=l.take i++[x]:=by
 rw[List.take_add_one,h];rfl
theorem AjN (a b:List Rat) (e:Int):B3 (.g8 [.sl false (a.map eQ),.sl false (b.map eQ),.int .i64 e]):=by
 simp only[B3,EC,and_true,true_and];exact ⟨LW a,LW b⟩
theorem Abq (a:List Rat) (e:Int):B3 (.g8 [.sl false (a.map eQ),.int .i64 e]):=by
 simp only[B3,EC,and_true,true_and];exact LW a
theorem eB (S:FQ):B3 (.agg (eS S)):=by
 have h:IH (S.a.map λ r=>[AV.sl false (r.map eQ)]):=ZR (λ r=>by simp only[EC,B3,and_true,true_and];exact LW r) S.a;simp only[B3,List.cons_append,List.nil_append,EC,and_true,true_and];exact ⟨h,LW _,LW _,GC _,GC _⟩
def EX (vals:List Rat):List (Int × Int)->Rat
 | []=>0
 | t::ts=>(t.2:Rat)*vals.getD t.1.toNat 0+EX vals ts
theorem Agr (vals:List Rat) (t:Int × Int) : ∀ ts,EX vals (ts++[t])=EX vals ts+(t.2:Rat)*vals.getD t.1.toNat 0
 | []=>by simp only[List.nil_append,EX];grind
 | u::ts=>by simp only[List.cons_append,EX];rw[Agr vals t ts];grind
theorem Qh {vals:List Rat} {ts:List (Int × Int)} {i:Nat} {t:Int × Int} (h:ts[i]? = some t):EX vals (ts.take (i+1))=EX vals (ts.take i)+(t.2:Rat)*vals.getD t.1.toNat 0:=by
 rw[List.take_add_one,h,Option.toList_some,Agr]
def GT (u:Rat) (ex:Int):Nat->List Rat->List (List (Int × Int))->List Rat
 | _,vals,[]=>vals
 | k,vals,ts::r=>GT u ex (k+1) (vals++[EX vals ts/u+(if (k:Int)=ex then 1 else 0)]) r
theorem bV (u:Rat) (ex:Int) : ∀ (k:Nat) (vals:List Rat) (l:List (List (Int × Int))),(GT u ex k vals l).length=vals.length+l.length
 | _,_,[]=>rfl
 | k,vals,ts::r=>by rw[GT,bV u ex (k+1)];simp;omega
theorem Bs.getD {k:Nat} {l:List Rat} (h:Bs k l) (i:Nat):Bt k (l.getD i 0):=by
 rw[List.getD_eq_getElem?_getD];cases e:l[i]? with
 | none=>exact Bt.zero k
 | some x=>exact h.at e
theorem Bs.sum {k j:Nat} {vals:List Rat} (hv:Bs k vals) : ∀ (ts:List (Int × Int)),(∀ t∈ts,Bt j ((t.2:Int):Rat))->Bt (ts.length*(j+k+1)) (EX vals ts)
 | [],_=>Bt.zero _
 | t::ts,h=>by
  have h1:=(h t (by simp)).mul (hv.getD t.1.toNat);have h2:=Bs.sum hv ts (λ u hu=>h u (by simp [hu]));refine (h1.add h2).le ?_;rw[List.length_cons,Nat.succ_mul];omega
def WT (C:List (List Rat)) (z vals:List Rat):Prop := ∀ m,m<vals.length->vals.getD m 0=CI (C.map λ c=>c.getD m 0) z
theorem uJ (x:Rat) : ∀ (a z:List Rat),CI (a.map λ c=>x*c) z=x*CI a z
 | [],z=>by cases z<;>simp [CI]
 | p::a,[]=>by simp [CI]
 | p::a,q::z=>by
  simp only[List.map_cons,CI];rw[uJ x a z];grind
theorem Zl {α:Type} (f g:α->Rat) : ∀ (a:List α) (z:List Rat),CI (a.map λ c=>f c+g c) z=CI (a.map f) z+CI (a.map g) z
 | [],z=>by cases z<;>(simp only[List.map_nil,CI];grind)
 | p::a,[]=>by simp only[List.map_cons,CI];grind
 | p::a,q::z=>by
  simp only[List.map_cons,CI];rw[Zl f g a z];grind
theorem Aca {α:Type} : ∀ (a:List α) (z:List Rat),CI (a.map λ_=>(0:Rat)) z=0
 | [],z=>by cases z<;>rfl
 | p::a,[]=>rfl
 | p::a,q::z=>by
  simp only[List.map_cons,CI];rw[Aca a z];grind
theorem WT.sum {C:List (List Rat)} {z vals:List Rat} (h:WT C z vals) : ∀ (ts:List (Int × Int)),(∀ t∈ts,t.1.toNat<vals.length)->EX vals ts=CI (C.map λ c=>EX c ts) z
 | [],_=>(Aca C z).symm
 | t::ts,ht=>by
  simp only[EX];rw[Zl (λ c=>(t.2:Rat)*c.getD t.1.toNat 0) (λ c=>EX c ts),<-WT.sum h ts (λ u hu=>ht u (by simp [hu])),h _ (ht t (by simp))];have:=uJ (t.2:Rat) (C.map λ c=>c.getD t.1.toNat 0) z
  rw[List.map_map]at this;rw[<-this];rfl
theorem fK {l:List Rat} {x:Rat} {m:Nat} (h:m<l.length):(l++[x]).getD m 0=l.getD m 0:=by
 rw[List.getD_eq_getElem?_getD,List.getD_eq_getElem?_getD,List.getElem?_append_left h]
theorem fJ {l:List Rat} {x:Rat} {m:Nat} (h:m=l.length):(l++[x]).getD m 0=x:=by
 subst h;rw[List.getD_eq_getElem?_getD,List.getElem?_append_right (Nat.le_refl _)];simp
theorem WT.all {u:Rat} (hu:u≠0) {z:List Rat} : ∀ (l:List (List (Int × Int))) (k:Nat) (C:List (List Rat)) (vals:List Rat),WT C z vals->(∀ c∈C,c.length=vals.length)->(∀ i ts,l[i]? = some ts -> ∀ t∈ts,t.1.toNat<vals.length+i) ->
  WT (C.map λ c=>GT u (-1) k c l) z (GT u (-1) k vals l)
 | [],_,C,vals,h,_,_=>by
  have e:(C.map λ c=>GT u (-1) 0 c [])=C:=by
   simp [GT]
  simpa [GT] using h
 | ts::l,k,C,vals,h,hc,ht=>by
  have fc:=ht 0 ts rfl;have e0 : ¬ (k:Int) = -1:=by omega
  simp only[GT,if_neg e0,Rat.add_zero];have hs:=h.sum ts (λ t h1=>by have:=fc t h1;omega);have fm:WT (C.map λ c=>c++[EX c ts/u]) z (vals++[EX vals ts/u]):=by
   intro m hm;simp only[List.length_append,List.length_cons,List.length_nil]at hm;rw[List.map_map];by_cases er:m<vals.length
   ·rw[fK er,h m er]
    congr 1;refine List.map_congr_left λ c qg => ?_
    simp only[Function.comp];rw[fK (by rw[hc c qg];exact er)]
   ·rw[fJ (by omega)]
    have e1:(C.map ((λ c=>c.getD m 0) ∘ λ c=>c++[EX c ts/u]))=C.map λ c=>u⁻¹*EX c ts:=by
     refine List.map_congr_left λ c qg => ?_
     simp only[Function.comp];rw[fJ (by rw[hc c qg];omega),Rat.div_def,Rat.mul_comm]
    rw[e1,hs,Rat.div_def,Rat.mul_comm];have:=uJ u⁻¹ (C.map λ c=>EX c ts) z
    rw[List.map_map]at this;rw[<-this];rfl
  have ih:=WT.all hu l (k+1) (C.map λ c=>c++[EX c ts/u]) (vals++[EX vals ts/u]) fm (λ c qg=>by
   obtain ⟨c0,h0,rfl⟩:=List.mem_map.1 qg;simp [hc c0 h0]) (λ i ts2 h2 t h3=>by
   have:=ht (i+1) ts2 h2 t h3
   simp;omega)
  rw[List.map_map]at ih;exact ih
def gS:Nat->Nat
 | 0=>0
 | i+1=>5*gS i+150
theorem Anm (i:Nat):gS i<=gS (i+1):=by rw[gS];omega
theorem Bt.ofInt {k:Nat} {z:Int} (h:z.natAbs<=2^k):Bt k ((z:Int):Rat):=⟨by rw[Rat.num_intCast];exact h,by rw[Rat.den_intCast];exact Nat.one_le_two_pow⟩
theorem Bt.yd {k j:Nat} {x:Rat} {z:Int} (h:Bt k x) (hz:1<=z) (hj:z.natAbs<=2^j):Bt (k+j) (x/(z:Rat)):=by
 obtain ⟨d,rfl⟩:=Int.eq_ofNat_of_zero_le (show 0<=z by omega);have e:x/((d:Int):Rat)=x*mkRat 1 d:=by
  rw[Rat.div_def,Rat.mkRat_eq_div,Rat.div_def];congr 1;rw[show ((1:Int):Rat)=1 from rfl,Rat.one_mul];rfl
 rw[e];exact h.mul (Bt.mk (by simp;exact Nat.one_le_two_pow) (by simpa using hj))
structure PU (l:List (List (Int × Int))):Prop where
 len : ∀ ts∈l,ts.length<=5
 cf : ∀ ts∈l,∀ t∈ts,t.2.natAbs<=2^24
theorem Apg {ts:List (Int × Int)} {vals:List Rat} {k:Nat} {z:Int} (h1:ts.length<=5) (h2 : ∀ t∈ts,t.2.natAbs<=2^24) (hv:Bs k vals) (hz:1<=z) (sz:z.natAbs<=2^24) (b:Bool):Bt (5*k+150) (EX vals ts/(z:Rat)+(if b=true then 1 else 0)):=by
 have a1:=hv.sum ts (j:=24) (λ t ht=>Bt.ofInt (h2 t ht));have a2:Bt (5*(24+k+1)) (EX vals ts):=a1.le (zR _ h1);have a3:=a2.yd hz sz;have a4:Bt 0 (if b=true then (1:Rat) else 0):=by cases b<;>first|exact Bt.zero 0|exact Bt.one 0
 exact (a3.add a4).le (by omega)
theorem oX {z ex:Int} (hz:1<=z) (sz:z.natAbs<=2^24) : ∀ (l:List (List (Int × Int))) (k:Nat) (vals:List Rat),PU l->Bs (gS k) vals->Bs (gS (k+l.length)) (GT (z:Rat) ex k vals l)
 | [],k,vals,_,hv=>hv
 | ts::l,k,vals,h,hv=>by
  have h1:=Apg (h.len ts (by simp)) (h.cf ts (by simp)) hv hz sz (decide ((k:Int)=ex));simp only[decide_eq_true_eq]at h1;rw[GT,List.length_cons,show k+(l.length+1)=k+1+l.length by omega];refine oX hz sz l (k+1) _ ⟨λ t ht=>h.len t (by simp [ht]),λ t ht=>h.cf t (by simp [ht])⟩ ?_;intro x hx;rcases List.mem_append.1 hx with hx|hx
  ·exact (hv x hx).le (Anm k)
  ·simp only[List.mem_singleton]at hx
   rw[hx];exact h1
theorem oY (u:Rat) (ex:Int) (vals:List Rat) (l:List (List (Int × Int))) (i:Nat) (ts:List (Int × Int)) (h:l[i]? = some ts):GT u ex 0 vals (l.take (i+1))=GT u ex 0 vals (l.take i)++[EX (GT u ex 0 vals (l.take i)) ts/u+(if (i:Int)=ex then 1 else 0)]:=by
 have key : ∀ (l:List (List (Int × Int))) (k:Nat) (vals:List Rat) (ts:List (Int × Int)),GT u ex k vals (l++[ts])=GT u ex k vals l++[EX (GT u ex k vals l) ts/u+(if ((k+l.length:Nat):Int)=ex then 1 else 0)]:=by
  intro l;induction l with
  | nil=>intro k vals ts;simp [GT]
  | cons a l ih =>
   intro k vals ts;rw[List.cons_append,GT,ih,GT,List.length_cons,show k+1+l.length=k+(l.length+1) by omega]
 have hi:=(zS h).1;rw[List.take_add_one,h,Option.toList_some,key,List.length_take,Nat.min_eq_left (by omega),Nat.zero_add]
def GK (m:List (List Rat)) (j:Nat):List Rat:=m.map λ r=>r.getD j 0
def IC (r:List Rat) (m:List (List Rat)) (n:Nat):List Rat:=(List.range n).map λ j=>CI r (GK m j)
def K7 (a m:List (List Rat)) (n:Nat):List (List Rat):=a.map λ r=>IC r m n
def GL (m:List (List Rat)) (b:List Rat):List Rat:=m.map λ r=>CI r b
theorem AjV (m:List (List Rat)) (j:Nat):(GK m j).length=m.length:=by simp [GK]
theorem AeQ (r:List Rat) (m:List (List Rat)) (n:Nat):(IC r m n).length=n:=by simp [IC]
theorem Ao2 (a m:List (List Rat)) (n:Nat):(K7 a m n).length=a.length:=by simp [K7]
theorem gB (m:List (List Rat)) (b:List Rat):(GL m b).length=m.length:=by simp [GL]
structure Sq (n:Nat) (m:List (List Rat)):Prop where
 l:m.length=n
 r : ∀ r∈m,r.length=n
theorem Sq.at {n:Nat} {m:List (List Rat)} (h:Sq n m) {i:Nat} {r:List Rat} (hr:m[i]? = some r):r.length=n:=h.r r (zM hr)
theorem Sq.mul {n:Nat} {a:List (List Rat)} (h:a.length=n) (m:List (List Rat)):Sq n (K7 a m n):=by
 refine ⟨by rw[Ao2,h],λ r hr => ?_⟩;obtain ⟨x,_,rfl⟩:=List.mem_map.1 hr;exact AeQ _ _ _
def Ms (k:Nat) (m:List (List Rat)):Prop := ∀ r∈m,Bs k r
theorem Ms.at {k:Nat} {m:List (List Rat)} (h:Ms k m) {i:Nat} {r:List Rat} (hr:m[i]? = some r):Bs k r:=h r (zM hr)
theorem Ms.Rk {k:Nat} {m:List (List Rat)} (h:Ms k m) (j:Nat):Bs k (GK m j):=by
 intro x hx;obtain ⟨r,hr,rfl⟩:=List.mem_map.1 hx;rw[List.getD_eq_getElem?_getD];cases e:r[j]? with
 | none=>exact Bt.zero k
 | some x=>exact (h r hr).at e
theorem ZV : ∀ a b:List Rat,CI a b=CI b a
 | [],[]=>rfl
 | [],_::_=>rfl
 | _::_,[]=>rfl
 | x::a,y::b=>by simp only[CI,ZV a b,Rat.mul_comm]
theorem uK : ∀ (v:List Rat) (n:Nat),CI (List.replicate n 0) v=0
 | [],n=>jO _
 | y::v,0=>rfl
 | y::v,n+1=>by rw[List.replicate_succ];simp only[CI,uK v n];grind
theorem Zm (x:Rat) : ∀ a b:List Rat,CI (a.map (x * ·)) b=x*CI a b
 | [],_=>by simp [CI]
 | _::_,[]=>by simp [CI]
 | p::a,q::b=>by simp only[List.map_cons,CI,Zm x a b];grind
theorem Ao5 (u:List Rat) (n:Nat):IC u [] n=List.replicate n 0:=by
 refine List.ext_getElem? λ j => ?_
 simp only[IC,GK,List.map_nil,jO,List.getElem?_map,List.getElem?_replicate];by_cases h:j<n
 ·rw[List.getElem?_range h,if_pos h];rfl
 ·rw[List.getElem?_eq_none (by simp;omega),if_neg h];rfl
theorem Ao6 (m:List (List Rat)) (n:Nat):IC [] m n=List.replicate n 0:=by
 refine List.ext_getElem? λ j => ?_
 simp only[IC,CI,List.getElem?_map,List.getElem?_replicate];by_cases h:j<n
 ·rw[List.getElem?_range h,if_pos h];rfl
 ·rw[List.getElem?_eq_none (by simp;omega),if_neg h];rfl
theorem Ao4 (x:Rat) (u r:List Rat) (m:List (List Rat)) (n:Nat) (hr:r.length=n):IC (x::u) (r::m) n=OO (r.map (x * ·)) (IC u m n):=by
 refine List.ext_getElem? λ j => ?_
 simp only[IC,OO,List.getElem?_map,List.getElem?_zipWith];by_cases h:j<n
 ·rw[List.getElem?_range h]
  obtain ⟨y,hy⟩ : ∃ y,r[j]? = some y:=⟨_,zE (by omega)⟩;rw[hy];simp only[Option.map_some,GK,List.map_cons,CI,List.getD_eq_getElem?_getD,hy,Option.getD_some]
 ·rw[List.getElem?_eq_none (by simp;omega),List.getElem?_eq_none (l:=r) (by omega)]
  rfl
theorem Zk {n:Nat} {v:List Rat} : ∀ (m:List (List Rat)) (u:List Rat),(∀ r∈m,r.length=n)->CI (IC u m n) v=CI u (GL m v)
 | [],u,_=>by rw[Ao5,uK,GL,List.map_nil,jO]
 | r::m,[],_=>by rw[Ao6,uK];rfl
 | r::m,x::u,h=>by
  have hr:=h r (by simp);rw[Ao4 x u r m n hr,ZV,oF (by rw[List.length_map,AeQ];exact hr),ZV v,ZV v,Zm,Zk m u λ r hr=>h r (by simp [hr])];rfl
theorem Ao9 {n:Nat} (a m:List (List Rat)) (v:List Rat) (h : ∀ r∈m,r.length=n):GL (K7 a m n) v=GL a (GL m v):=by
 simp only[GL,K7,List.map_map];exact List.map_congr_left λ r _=>Zk m r h
def wQ (S:FQ):Nat->List Rat
 | 0=>S.b
 | j+1=>GL S.a (wQ S j)
def conv (A h:Nat->Rat) (K:Nat):Nat->Rat
 | 0=>0
 | a+1=>conv A h K a+A a*h (K-a)
def ES (f:Nat->Rat):Nat->Rat
 | 0=>0
 | n+1=>ES f n+f n
theorem Qf {f g:Nat->Rat} : ∀ n,(∀ j,j<n->f j=g j)->ES f n=ES g n
 | 0,_=>rfl
 | n+1,h=>by rw[ES,ES,Qf n λ j hj=>h j (by omega),h n (by omega)]
theorem oG (x:Rat) : ∀ a b:List Rat,CI (a.map (· * x)) b=CI a b*x
 | [],b=>by simp [CI]
 | a::l,[]=>by rw[jO,jO,Rat.zero_mul]
 | a::l,b::k=>by
  simp only[List.map_cons,CI,oG x l k];grind
end Go.b8
namespace Go.b8
theorem Bt.Xk {k:Nat} {y:Rat} (h:Bt k y):Bt k y⁻¹:=by
 rw[Rat.inv_def];rcases Int.natAbs_eq y.num with e|e
 ·rw[e,Rat.divInt_ofNat]
  exact Bt.mk (by simpa using h.2) h.1
 ·rw[e,Rat.divInt_neg',Rat.divInt_ofNat]
  exact Bt.mk (by simpa using h.2) h.1
theorem Bt.vn {k l:Nat} {x y:Rat} (hx:Bt k x) (hy:Bt l y):Bt (k+l) (x/y):=by
 rw[Rat.div_def];exact hx.mul hy.Xk
theorem Bt.Nc {k:Nat} {x:Rat} (h:Bt k x):Bt k (-x):=⟨by rw[Rat.neg_num,Int.natAbs_neg];exact h.1,by rw[Rat.neg_den];exact h.2⟩
def lM (s x:Rat):Rat:=s*(((s*x).den:Nat):Rat)
def LA (r:List Rat):Rat:=r.foldl lM 1
theorem Aqr (r:List Rat) (x:Rat):LA (r++[x])=lM (LA r) x:=by rw[LA,List.foldl_append];rfl
theorem Ao7 {a b c:Rat} (h:c≠0) (e:a*c=b*c):a=b:=by
 have h1:=Rat.mul_inv_cancel c h;have:a*c*c⁻¹=b*c*c⁻¹:=by rw[e]
 rwa [Rat.mul_assoc,Rat.mul_assoc,h1,Rat.mul_one,Rat.mul_one]at this
section
variable {m0 m:List (List Rat)} {K W AIy c:Nat} {P:List Nat} {odd:Bool} {l:Rat}
end
end Go.b8

namespace Go.b8
structure Pt where
 x:Rat
 y:Rat
 w:Rat
def Aq4 (g:List Pt) (f:Pt->Rat):Rat:=g.foldl (λ s p=>s+f p) 0
def rhs (g:List Pt) (k:Nat):Rat:=Aq4 g λ p=>p.w*p.x^k*p.y
def Wh (k:Nat) (x:Rat):Prop := ∃ z:Int,x=(z:Rat)/\z.natAbs<=2^k
theorem Wh.le {k l:Nat} {x:Rat} (h:Wh k x) (hl:k<=l):Wh l x:=by
 obtain ⟨z,e,b⟩:=h;exact ⟨z,e,Nat.le_trans b (Nat.pow_le_pow_right (by omega) hl)⟩
theorem Wh.mul {k l:Nat} {x y:Rat} (hx:Wh k x) (hy:Wh l y):Wh (k+l) (x*y):=by
 obtain ⟨z,rfl,b⟩:=hx;obtain ⟨u,rfl,c⟩:=hy;exact ⟨z*u,by rw[Rat.intCast_mul],by rw[Int.natAbs_mul,Nat.pow_add];exact Nat.mul_le_mul b c⟩
theorem Wh.add {k:Nat} {x y:Rat} (hx:Wh k x) (hy:Wh k y):Wh (k+1) (x+y):=by
 obtain ⟨z,rfl,b⟩:=hx;obtain ⟨u,rfl,c⟩:=hy;refine ⟨z+u,by rw[Rat.intCast_add],?_⟩;rw[Nat.pow_succ];have:=Int.natAbs_add_le z u
 omega
theorem Wh.zero (k:Nat):Wh k 0:=⟨0,rfl,Nat.zero_le _⟩
theorem Wh.bt {k:Nat} {x:Rat} (h:Wh k x):Bt k x:=by
 obtain ⟨z,rfl,b⟩:=h;exact Bt.ofInt b
theorem Wh.dot {k l:Nat} : ∀ {a b:List Rat},(∀ x∈a,Wh k x)->(∀ x∈b,Wh l x)->Wh (k+l+a.length) (CI a b)
 | [],b,_,_=>by cases b<;>exact Wh.zero _
 | x::a,[],_,_=>Wh.zero _
 | x::a,y::b,ha,hb=>by
  rw[CI,List.length_cons,<-Nat.add_assoc];exact (((ha x List.mem_cons_self).mul (hb y List.mem_cons_self)).le (by omega)).add (Wh.dot (λ z hz=>ha z (List.mem_cons_of_mem _ hz)) λ z hz=>hb z (List.mem_cons_of_mem _ hz))
theorem cG (y:Rat):y*(y.den:Rat)=(y.num:Rat):=by
 have h:=Rat.num_divInt_den y;rw[Rat.divInt_eq_div]at h;have h0:((y.den:Int):Rat)≠0:=λ e=>by
  have:((y.den:Int):Rat)=((0:Int):Rat):=e
  have:=Rat.intCast_inj.1 this
  have:=y.den_pos
  omega
 have h2:=Rat.div_mul_cancel h0 (a:=(y.num:Rat));rw[h,Rat.intCast_natCast]at h2;exact h2
theorem tZ {y:Rat} {T:Nat} {z:Int} (h:(T:Rat)*y=(z:Rat)):y.den ∣ T:=by
 have h1:y*(y.den:Rat)=(y.num:Rat):=cG y;have h2:(((T:Int)*y.num:Int):Rat)=((z*(y.den:Int):Int):Rat):=by
  rw[Rat.intCast_mul,Rat.intCast_mul,<-h1,<-h,Rat.intCast_natCast,Rat.intCast_natCast,Rat.mul_assoc]
 have h3:=Rat.intCast_inj.1 h2;have h4:(y.den:Int) ∣ (T:Int)*y.num:=⟨z,by rw[h3,Int.mul_comm]⟩;have h5:y.den ∣ T*y.num.natAbs:=by
  have:=Int.natAbs_dvd_natAbs.2 h4
  simpa [Int.natAbs_mul] using this
 exact Nat.Coprime.dvd_of_dvd_mul_right (Nat.Coprime.symm y.reduced) h5
def JQ (u:Rat) (ex:Int):Nat->List Rat->List (List (Int × Int))->List Rat
 | _,vals,[]=>vals
 | k,vals,ts::r=>JQ u ex (k+1) (vals++[if (k:Int)=ex then 1 else EX vals ts*u]) r
theorem wB (u:Rat) (ex:Int) : ∀ (k:Nat) (vals:List Rat) (l:List (List (Int × Int))),(JQ u ex k vals l).length=vals.length+l.length
 | _,vals,[]=>by simp [JQ]
 | k,vals,ts::r=>by rw[JQ,wB u ex (k+1)];simp;omega
theorem Ans (u:Rat) (ex:Int) (vals:List Rat) (l:List (List (Int × Int))) (i:Nat) (ts:List (Int × Int)) (h:l[i]? = some ts):JQ u ex 0 vals (l.take (i+1))=JQ u ex 0 vals (l.take i)++[if (i:Int)=ex then 1 else EX (JQ u ex 0 vals (l.take i)) ts*u]:=by
 have key : ∀ (l:List (List (Int × Int))) (k:Nat) (vals:List Rat) (ts:List (Int × Int)),JQ u ex k vals (l++[ts])=JQ u ex k vals l++[if ((k+l.length:Nat):Int)=ex then 1 else EX (JQ u ex k vals l) ts*u]:=by
  intro l;induction l with
  | nil=>intro k vals ts;simp [JQ]
  | cons a l ih =>
   intro k vals ts;rw[List.cons_append,JQ,ih,JQ,List.length_cons,show k+1+l.length=k+(l.length+1) by omega]
 have hi:=(zS h).1;rw[List.take_add_one,h,Option.toList_some,key,List.length_take,Nat.min_eq_left (by omega),Nat.zero_add]
def YR (m:Nat):Nat->Nat
 | 0=>0
 | i+1=>m*(YR m i+25)+YR m i+24
theorem vZ {u:Rat} {ex:Int} {m:Nat} (hu:Bt 24 u) : ∀ (l:List (List (Int × Int))) (k:Nat) (vals:List Rat),(∀ ts∈l,ts.length<=m)->(∀ ts∈l,∀ t∈ts,t.2.natAbs<=2^24)->Bs (YR m k) vals->Bs (YR m (k+l.length)) (JQ u ex k vals l)
 | [],k,vals,_,_,hv=>hv
 | ts::l,k,vals,h1,h2,hv=>by
  rw[JQ,List.length_cons,show k+(l.length+1)=k+1+l.length by omega];refine vZ hu l (k+1) _ (λ t ht=>h1 t (by simp [ht])) (λ t ht=>h2 t (by simp [ht])) ?_;intro x hx;rcases List.mem_append.1 hx with hx|hx
  ·exact (hv x hx).le (by rw[YR];omega)
  ·simp only[List.mem_singleton]at hx
   subst hx;split
   ·exact Bt.one _
   ·have a1:=hv.sum ts (j:=24) (λ t ht=>Bt.ofInt (h2 ts (by simp) t ht))
    have a2:=zR (24+YR m k+1) (h1 ts (by simp));refine ((a1.le a2).mul hu).le ?_;rw[YR,show 24+YR m k+1=YR m k+25 by omega];omega
theorem Zc {L:Lib} {kk:List It} {tm:Tm} {M:Mem} {Q Q':Tm->Mem->Prop} (h:AJ L kk tm M Q) (hq : ∀ tm M,Q tm M->Q' tm M):AJ L kk tm M Q':=λ σ st hr=>by
 obtain ⟨n,c,s,h1,σ',cn,M',h2,h3⟩:=h σ st hr;exact ⟨n,c,s,h1,σ',cn,M',h2,hq _ _ h3⟩
def HN (D M:Nat) (x:Rat):Prop := ∃ z:Int,x*((D:Int):Rat)=(z:Rat)/\z.natAbs<=M
theorem HN.zero (D M:Nat):HN D M 0:=⟨0,by rw[Rat.zero_mul];rfl,by simp⟩
theorem HN.le {D M N:Nat} {x:Rat} (h:HN D M x) (hn:M<=N):HN D N x:=by
 obtain ⟨z,h1,h2⟩:=h;exact ⟨z,h1,Nat.le_trans h2 hn⟩
theorem HN.mul {D E M N:Nat} {x y:Rat} (hx:HN D M x) (hy:HN E N y):HN (D*E) (M*N) (x*y):=by
 obtain ⟨z,h1,h2⟩:=hx;obtain ⟨w,h3,h4⟩:=hy;refine ⟨z*w,?_,by rw[Int.natAbs_mul];exact Nat.mul_le_mul h2 h4⟩;rw[Int.natCast_mul,Rat.intCast_mul,Rat.intCast_mul,<-h1,<-h3];grind
theorem HN.add {D M N:Nat} {x y:Rat} (hx:HN D M x) (hy:HN D N y):HN D (M+N) (x+y):=by
 obtain ⟨z,h1,h2⟩:=hx;obtain ⟨w,h3,h4⟩:=hy;refine ⟨z+w,?_,Nat.le_trans (Int.natAbs_add_le _ _) (Nat.add_le_add h2 h4)⟩;rw[Rat.intCast_add,<-h1,<-h3];grind
theorem HN.up {D M:Nat} {x:Rat} (h:HN D M x) (E:Nat):HN (D*E) (M*E) x:=by
 have h1:HN E E 1:=⟨E,by rw[Rat.one_mul],by simp⟩;have:=h.mul h1
 rwa [Rat.mul_one]at this
theorem HN.bt {D M k:Nat} {x:Rat} (h:HN D M x) (h0:D≠0) (hD:D<=2^k) (hM:M<=2^k):Bt k x:=by
 obtain ⟨z,h1,h2⟩:=h;have hd:((D:Int):Rat)≠0:=by
  intro e;have:(D:Int)=0:=by exact_mod_cast e
  omega
 have e:x=mkRat z D:=by
  rw[Rat.mkRat_eq_div,<-h1,Rat.div_def];have:=Rat.mul_inv_cancel _ hd
  rw[show ((D:Nat):Rat)=((D:Int):Rat) from rfl,Rat.mul_assoc,this,Rat.mul_one]
 rw[e];exact Bt.mk (Nat.le_trans h2 hM) hD
theorem Ag6 {D E M N:Nat} : ∀ (r y:List Rat),(∀ x∈r,HN D M x)->(∀ x∈y,HN E N x)->HN (D*E) (r.length*(M*N)) (CI r y)
 | [],_,_,_=>HN.zero _ _
 | _::_,[],_,_=>HN.zero _ _
 | a::r,b::y,h1,h2=>by
  rw[CI,List.length_cons,Nat.succ_mul,Nat.add_comm];exact ((h1 a (by simp)).mul (h2 b (by simp))).add (Ag6 r y (λ x hx=>h1 x (by simp [hx])) (λ x hx=>h2 x (by simp [hx])))
theorem ArA {S:FQ} {n k D m j:Nat} (h:S.Ok n k) (ny:D<=2^m) (ha : ∀ r∈S.a,∀ x∈r,HN D (2^m) x) (hb : ∀ x∈S.b,HN D (2^m) x) {now:List Rat} {x:Rat} (hx:x=0\/x=1) (hn : ∀ x∈now,HN (D^j) (2^(j*(m+n+1))) x) : ∀ y∈S.next now x,HN (D^(j+1)) (2^((j+1)*(m+n+1))) y:=by
 intro y hy;obtain ⟨i,hi⟩:=List.getElem?_of_mem hy;have im:=(zS hi).1;rw[h.mq]at im;obtain ⟨r,hr⟩ : ∃ r,S.a[i]? = some r:=⟨_,zE (by rw[h.la];exact im)⟩;obtain ⟨b,jx⟩ : ∃ b,S.b[i]? = some b:=⟨_,zE (by rw[h.lb];exact im)⟩;have e:=xR now x S.a S.b i r b hr jx;rw[FQ.next]at hi;rw[hi]at e;obtain rfl:=Option.some.inj e;have h1:=Ag6 r now (ha r (zM hr)) hn;rw[h.lr r (zM hr)]at h1;have h2:HN (D*D^j) (2^m*D^j) (b*x):=by
  rcases hx with rfl|rfl
  ·rw[Rat.mul_zero];exact HN.zero _ _
  ·rw[Rat.mul_one];exact (hb b (zM jx)).up _
 have h3:=h1.add h2;rw[show D*D^j=D^(j+1) by rw[Nat.pow_succ,Nat.mul_comm]]at h3;refine h3.le ?_;have g1:D^j<=2^(j*(m+n+1)):=by
  refine Nat.le_trans (Nat.pow_le_pow_left ny j) ?_;rw[<-Nat.pow_mul];refine Nat.pow_le_pow_right (by omega) ?_;rw[Nat.mul_comm];exact Nat.mul_le_mul_left j (by omega)
 have g2:n+1<=2^n:=Nat.lt_two_pow_self;have g3:2^((j+1)*(m+n+1))=2*(2^n*(2^m*2^(j*(m+n+1)))):=by
  rw[Nat.succ_mul,Nat.pow_add,Nat.pow_add,Nat.pow_add];generalize 2^(j*(m+n+1))=P;generalize 2^m=A;generalize 2^n=B;grind
 rw[g3];generalize 2^(j*(m+n+1))=P at *;have g4:2^m*D^j<=2^m*P:=Nat.mul_le_mul_left _ g1;generalize 2^m*P=T at *;have g5:(n+1)*T<=2^n*T:=zR T g2;rw[Nat.succ_mul]at g5;omega
theorem Ahc {S:FQ} {n k D m:Nat} (h:S.Ok n k) (ny:D<=2^m) (ha : ∀ r∈S.a,∀ x∈r,HN D (2^m) x) (hb : ∀ x∈S.b,HN D (2^m) x) : ∀ (xs now:List Rat) (j:Nat),(∀ x∈xs,x=0\/x=1)->(∀ x∈now,HN (D^j) (2^(j*(m+n+1))) x) -> ∀ x∈S.state now xs,HN (D^(j+xs.length)) (2^((j+xs.length)*(m+n+1))) x
 | [],_,_,_,hn=>hn
 | x::xs,now,j,hx,hn=>by
  have:=Ahc h ny ha hb xs _ (j+1) (λ z hz=>hx z (by simp [hz])) (ArA h ny ha hb (hx x (by simp)) hn)
  rw[show j+1+xs.length=j+(x::xs).length by rw[List.length_cons];omega]at this;exact this
def QN:List Rat->Nat
 | []=>1
 | x::l=>x.den*QN l
theorem AbP : ∀ l:List Rat,1<=QN l
 | []=>Nat.le_refl _
 | x::l=>Nat.mul_pos x.den_pos (AbP l)
theorem AbO {k:Nat} : ∀ l:List Rat,Bs k l->QN l<=2^(k*l.length)
 | [],_=>Nat.one_le_two_pow
 | x::l,h=>by
  rw[QN,List.length_cons,Nat.mul_succ,Nat.add_comm,Nat.pow_add];exact Nat.mul_le_mul (h x (by simp)).2 (AbO l λ y hy=>h y (by simp [hy]))
theorem AbN : ∀ {l:List Rat} {x:Rat},x∈l -> ∃ e,QN l=x.den*e
 | y::l,x,h=>by
  rcases List.mem_cons.1 h with rfl|h
  ·exact ⟨_,rfl⟩
  ·obtain ⟨e,he⟩:=AbN h
   exact ⟨y.den*e,by rw[QN,he,<-Nat.mul_assoc,<-Nat.mul_assoc,Nat.mul_comm y.den]⟩
theorem Ao8 (y:Rat):y*(y.den:Rat)=(y.num:Rat):=by
 have h:=Rat.num_divInt_den y;rw[Rat.divInt_eq_div]at h;have h0:((y.den:Int):Rat)≠0:=λ e=>by
  have:((y.den:Int):Rat)=((0:Int):Rat):=e
  have:=Rat.intCast_inj.1 this
  have:=y.den_pos
  omega
 have h2:=Rat.div_mul_cancel h0 (a:=(y.num:Rat));rw[h,Rat.intCast_natCast]at h2;exact h2
theorem Ary {l:List Rat} {x:Rat} {k m:Nat} (hx:x∈l) (hb:Bt k x) (hD:QN l<=2^m):HN (QN l) (2^(k+m)) x:=by
 obtain ⟨e,he⟩:=AbN hx;refine ⟨x.num*e,?_,?_⟩
 ·rw[he,Int.natCast_mul,Rat.intCast_mul,Rat.intCast_mul,<-Rat.mul_assoc]
  congr 1;exact Ao8 x
 ·have h1:e<=QN l:=by rw[he];exact Nat.le_mul_of_pos_left e x.den_pos
  rw[Int.natAbs_mul,Int.natAbs_natCast,Nat.pow_add];exact Nat.mul_le_mul hb.1 (Nat.le_trans h1 hD)
theorem AqQ {S:FQ} {n k m:Nat} (h:S.Ok n k) (hm:k*(n*n+n)+k<=m) {xs:List Rat} (hx : ∀ x∈xs,x=0\/x=1):Bs (xs.length*(m+n+1)) (S.state (List.replicate n 0) xs):=by
 have jf:Bs k (S.a.flatten++S.b):=λ x hx=>by
  rcases List.mem_append.1 hx with h1|h1
  ·obtain ⟨r,hr,hxr⟩:=List.mem_flatten.1 h1
   exact h.ba r hr x hxr
  ·exact h.bb x h1
 have hlen:(S.a.flatten++S.b).length=n*n+n:=by
  rw[List.length_append,h.lb,List.length_flatten];have : ∀ (l:List (List Rat)),(∀ r∈l,r.length=n)->(l.map List.length).sum=l.length*n:=by
   intro l;induction l with
   | nil=>intro _;simp
   | cons r l ih=>intro hl;rw[List.map_cons,List.sum_cons,ih (λ x hx=>hl x (by simp [hx])),hl r (by simp),List.length_cons,Nat.succ_mul,Nat.add_comm]
  rw[this _ h.lr,h.la]
 have hD:=AbO _ jf;rw[hlen]at hD;have ny:QN (S.a.flatten++S.b)<=2^m:=Nat.le_trans hD (Nat.pow_le_pow_right (by omega) (by omega));have hw : ∀ x∈S.a.flatten++S.b,HN (QN (S.a.flatten++S.b)) (2^m) x:=λ x hx=>(Ary hx (jf x hx) hD).le (Nat.pow_le_pow_right (by omega) (by omega))
 have h1:=Ahc h ny (λ r hr x hx=>hw x (List.mem_append.2 (Or.inl (List.mem_flatten.2 ⟨r,hr,hx⟩)))) (λ x hx=>hw x (List.mem_append.2 (Or.inr hx))) xs (List.replicate n 0) 0 hx (λ x hx=>by rw[List.eq_of_mem_replicate hx];exact HN.zero _ _);rw[Nat.zero_add]at h1;intro x hx;have h0:=AbP (S.a.flatten++S.b);refine (h1 x hx).bt (Nat.ne_of_gt (Nat.pow_pos h0)) ?_ (Nat.le_refl _);refine Nat.le_trans (Nat.pow_le_pow_left ny _) ?_;rw[<-Nat.pow_mul];refine Nat.pow_le_pow_right (by omega) ?_;rw[Nat.mul_comm];exact Nat.mul_le_mul_left _ (by omega)
end Go.b8

namespace Go.b8
open F
attribute [local irreducible] AJ A3 BU AU FE BR C1 CK DS DE FA G7 DR B2 EH E5 AL CQ BC pw FM E2 F7 G8 GX EG FK EE FZ
variable {L:Lib}
set_option maxHeartbeats 1000000
def GS (a b:Int):Int:=if a<b then -1 else if b<a then 1 else 0
theorem NT {a b:Int} (h:a<b) : -1=GS a b:=by unfold GS;rw[if_pos h]
theorem W8 {a b:Int} (h:b<a):1=GS a b:=by unfold GS;rw[if_neg (by omega),if_pos h]
theorem bF {a b:Int} (h:a=b):0=GS a b:=by unfold GS;rw[if_neg (by omega),if_neg (by omega)]
theorem Al6 (N:c7 L) (a:Int):Ev L 58 [.int .i64 a] (.bool false):=by
 refine Ev.x N.QI rfl rfl ?_;(repeat' ((first|(apply A9<;>intro hc<;>try omega)|apply A2)<;>conv=>whnf))
 exact JO rfl
theorem Al7 (N:c7 L) (a:Int):Ev L 59 [.int .u32 a] (.bool false):=by
 refine Ev.x N.QJ rfl rfl ?_;(repeat' ((first|(apply A9<;>intro hc<;>try omega)|apply A2)<;>conv=>whnf))
 exact JO rfl
theorem AlH (N:c7 L) (a b:Int):Ev L 60 [.int .i64 a,.int .i64 b] (.int .i64 (GS a b)):=by
 refine Ev.x N.QG rfl rfl ?_;(repeat' ((first|(apply A9<;>intro hc<;>try omega)|apply A2|refine AP (Al6 N _) ?_)<;>conv=>whnf))
 ·exact ET (NT (by omega))
 ·exact ET (W8 (by omega))
 ·exact ET (bF (by omega))
theorem AlI (N:c7 L) (a b:Int):Ev L 61 [.int .u32 a,.int .u32 b] (.int .i64 (GS a b)):=by
 refine Ev.x N.QH rfl rfl ?_;(repeat' ((first|(apply A9<;>intro hc<;>try omega)|apply A2|refine AP (Al7 N _) ?_)<;>conv=>whnf))
 ·exact ET (NT (by omega))
 ·exact ET (W8 (by omega))
 ·exact ET (bF (by omega))
theorem Acu (N:c7 L) (l:List Nat) (q:Bool) (hl:l.length<=1099511627776):Ev L 62 [.sl q (l.map BF)] (.sl false (l.map BF)):=by
 cases l with
 | nil =>
  refine KR.nil N.M5 (KR.x N.M5 rfl rfl ?_) (KR.x N.M5 rfl rfl ?_)
  ·(repeat' (apply A2<;>conv=>whnf))
   exact BV rfl (by simp [B3,IH])
  ·(repeat' (apply A2<;>conv=>whnf))
   refine mK (enc:=BF) (l:=[]) (l':=[]) rfl (λ_=>rfl) (by simp) (by simp) ?_;(conv=>whnf)
   (repeat' ((refine FO (λ_=>rfl) rfl ?_ ?_;(first|rfl|simp))<;>conv=>whnf))
   exact BV rfl (by simp [B3,IH])
 | cons d l =>
  refine KR.cons (KR.x N.M5 rfl rfl ?_);(repeat' (apply A2<;>conv=>whnf))
  refine B5 (by simp) ?_;(conv=>whnf)
  skip
  refine mK (enc:=BF) (l:=[]) (l':=d::l) rfl (λ_=>rfl) (by simp at hl ⊢;omega) (by simp at hl ⊢;omega) ?_;(conv=>whnf)
  (repeat' ((refine FO (λ_=>rfl) rfl ?_ ?_;(first|rfl|simp))<;>conv=>whnf))
  exact BV rfl (by simp only[B3,true_and];exact GC (d::l))
theorem P8 (N:c7 L) (l:List Nat) (q:Bool) (hD:B9 l) (hl:l.length<=1099511627776):iT L 65 [.sl q (l.map BF)] (.sl q ((dg (val l)).map BF)):=by
 refine Aix N.KN rfl rfl rfl rfl rfl ?_;(repeat' ((first|apply BT|apply A2)<;>conv=>whnf))
 refine G5 (λ n=>n) (λ(n:Nat)=>n<=l.length /\ ∀ i,n<=i->i<l.length->l[i]? = some 0) (λ n=>[(3,.int .i64 n)]) (λ_=>[]) l.length ⟨Nat.le_refl _,λ i h1 h2=>by omega⟩ ?_;intro n ⟨p1,p2⟩ ih;rcases n with _|n
 ·(repeat' ((first|(apply A9<;>intro hc<;>try omega)|apply A2)<;>conv=>whnf))
  refine QE (k:=0) (λ_=>rfl) (by omega) ?_;(conv=>whnf)
  refine ⟨_,rfl,?_⟩;rw[LH hD p1 p2 (Or.inl rfl)];rfl
 ·have e1:((n+1:Nat):Int)-1=n:=by omega
  (repeat' ((first|(apply A9<;>intro hc<;>try omega)|(apply DQ;omega)|(refine ZJ (by assumption) ?_ (λ e he hb => ?_);omega)|apply A2)<;>conv=>whnf))
  ·rw[e1]
   exact CZ [] (ih n (by omega) ⟨by omega,λ i h1 h2=>by
    by_cases h:i=n
    ·subst h
     rw[e1,Int.toNat_natCast]at he;rw[he];congr 1;omega
    ·exact p2 i (by omega) h2⟩)
  ·refine QE (k:=n+1) (λ_=>rfl) (by omega) ?_
   (conv=>whnf)
   refine ⟨_,rfl,?_⟩;rw[e1,Int.toNat_natCast]at he;rw[LH hD p1 p2 (Or.inr ⟨e,he,by omega⟩)];rfl
theorem jT (N:c7 L) (l:List Nat) (q:Bool) (hD:B9 l) (hl:l.length<=1099511627776):Ev L 66 [.sl q (l.map BF)] (.sl false ((dg (val l)).map BF)):=by
 have hc:=JB hD;refine Ev.x N.R5 rfl rfl ?_;(repeat' ((first|apply A2|refine PQ (P8 N l _ hD hl) ?_|refine AP (Acu N (dg (val l)) _ (by omega)) ?_)<;>conv=>whnf))
 exact BV rfl (by simp only[B3,true_and];exact GC _)
theorem AjR {a b:Nat} (h:((dg a).length:Int)≠(dg b).length):GS (dg a).length (dg b).length=GS a b:=by
 rcases Nat.lt_trichotomy (dg a).length (dg b).length with h1|h1|h1
 ·have:=iF h1
  rw[<-NT (by omega),<-NT (by omega)]
 ·omega
 ·have:=iF h1
  rw[<-W8 (by omega),<-W8 (by omega)]
theorem YN (N:c7 L) (a b:List Nat) (q1 q2:Bool) (hA:B9 a) (hB:B9 b) (la:a.length<=1099511627776) (lb:b.length<=1099511627776):Ev L 67 [.sl q1 (a.map BF),.sl q2 (b.map BF)] (.int .i64 (GS (val a) (val b))):=by
 have l1:=JB hA;have l2:=JB hB;have d1:=HW (val a);have d2:=HW (val b);refine Ev.x N.RW rfl rfl ?_;(repeat' ((first|(apply A9<;>intro hc<;>try omega)|(apply DQ;omega)|apply BT|apply A2|refine PQ (P8 N a _ hA la) ?_|refine PQ (P8 N b _ hB lb) ?_|refine AP (AlH N _ _) ?_)<;>conv=>whnf))
 ·exact ET (AjR (by omega))
 have hlen:(dg (val a)).length=(dg (val b)).length:=by omega
 have v1:=EA (val a);have v2:=EA (val b);generalize dg (val a)=X at *;generalize dg (val b)=Y at *;refine G5 (λ n=>n) (λ(n:Nat)=>n<=X.length/\X.drop n=Y.drop n) (λ n=>[(7,.int .i64 ((n:Int)-1))]) (λ_=>[]) X.length ⟨Nat.le_refl _,by rw[List.drop_of_length_le (Nat.le_refl _),List.drop_of_length_le (by omega)]⟩ ?_;intro n ⟨p1,p2⟩ ih;rcases n with _|n
 ·(repeat' ((first|(apply A9<;>intro hc<;>try omega)|apply A2)<;>conv=>whnf))
  rw[List.drop_zero,List.drop_zero]at p2;exact ET (bF (by rw[<-v1,<-v2,p2]))
 ·have e1:((n+1:Nat):Int)-1=n:=by omega
  rw[e1];(repeat' ((first|(apply A9<;>intro hc<;>try omega)|(apply DQ;omega)|(refine CN (by assumption) ?_ rfl ?_;omega)|(refine nA (by assumption) ?_ (λ e he hb => ?_);omega)|apply A2|refine AP (AlI N _ _) ?_)<;>conv=>whnf))
  ·rename_i x hx _
   rcases Nat.lt_trichotomy x e with h|h|h
   ·have:=rP d1 d2 hlen hx he p2 h
    refine ET ?_;rw[<-NT (by omega),<-NT (by omega)]
   ·omega
   ·have:=rP d2 d1 hlen.symm he hx p2.symm h
    refine ET ?_;rw[<-W8 (by omega),<-W8 (by omega)]
  ·rename_i x hx _
   refine DP [] (by (conv=>whnf);exact ⟨rfl,rfl,rfl⟩) (ih n (by omega) ⟨by omega,?_⟩);obtain ⟨i1,e1⟩:=zS hx;obtain ⟨i2,e2⟩:=zS he;rw[List.drop_eq_getElem_cons i1,List.drop_eq_getElem_cons i2,p2,e1,e2];congr 1;omega
theorem rS {y:List Nat} {i:Nat} (h:y.length<=i):val (y.take (i+1))=val (y.take i):=by
 rw[GV h,GV (by omega)]
theorem Ame (N:c7 L) (a b:List Nat) (q1 q2:Bool) (hA:B9 a) (hB:B9 b) (la:a.length<=1099511627775) (lb:b.length<=1099511627775):Ev L 68 [.sl q1 (a.map BF),.sl q2 (b.map BF)] (.sl false ((dg (val a+val b)).map BF)):=by
 have l1:=JB hA;have l2:=JB hB;have d1:=HW (val a);have d2:=HW (val b);have v1:=EA (val a);have v2:=EA (val b);refine Ev.x N.RV rfl rfl ?_;(repeat' ((first|(apply A9<;>intro hc<;>try omega)|(apply BG;omega)|apply BT|apply A2|refine PQ (P8 N a _ hA (by omega)) ?_|refine PQ (P8 N b _ hB (by omega)) ?_)<;>conv=>whnf))
 ·generalize dg (val a)=y at *
  generalize dg (val b)=x at *;rw[<-v1,<-v2,Nat.add_comm (val y)];have hlen:y.length<=x.length:=by omega
  have Bb:x.length<=1099511627775:=by omega
  clear v1 v2 hA hB la lb;refine GJ (enc:=BF) 0 (x.length+1) rfl (by omega) (by omega) ?_;(conv=>whnf)
  (repeat' (apply BT<;>conv=>whnf))
  refine LD (λ i _ _=>x.length-i) (λ(i:Nat) (o:List Nat) (c:Nat)=>i<=x.length/\o.length=x.length+1/\B9 o/\c<=1/\val (o.take i)+4294967296^i*c=val (x.take i)+val (y.take i)) (λ i o c=>[(8,.int .u64 (c:Int)),(29,.int .i64 i)]) (λ i o c=>[(26,26,.rw 1 (o.map BF))]) 0 (List.replicate (x.length+1) 0) 0 ⟨by omega,by simp,OS _,by omega,by simp [val]⟩ ?_;intro i o c ⟨p1,p2,p3,p4,p5⟩ ih;by_cases hi:i<x.length
  ·(repeat' ((first|(apply A9<;>intro hc<;>try omega)|(apply B5;omega)|(apply K0;omega)|(apply EM;omega)|apply KQ|apply BT|(refine nA (by assumption) ?_ (λ e he hb => ?_);omega)|apply A2)<;>conv=>whnf))
   ·rename_i d hd _
    refine JW (by omega) ?_;(conv=>whnf)
    (repeat' ((first|(apply BG;omega)|apply J2)<;>conv=>whnf))
    refine DP [] (by (conv=>whnf);exact ⟨rfl,rfl,rfl⟩) (ih (i+1) _ _ (by omega) ⟨by omega,by simpa using p2,p3.set _ (by omega),by omega,?_⟩);have h1:=H5 hd;have h2:=H5 he;have h3:=YD (val (o.take i)) (4294967296^i) (d+c+e);have h4:=KY (v:=(d+c+e)%4294967296) (show i<o.length by omega);rw[h4,h1,h2,Nat.pow_succ];generalize 4294967296^i=p at *;rw[h3,Nat.mul_add,Nat.mul_add];omega
   ·refine JW (by omega) ?_
    (conv=>whnf)
    (repeat' ((first|(apply BG;omega)|apply J2)<;>conv=>whnf))
    refine DP [] (by (conv=>whnf);exact ⟨rfl,rfl,rfl⟩) (ih (i+1) _ _ (by omega) ⟨by omega,by simpa using p2,p3.set _ (by omega),by omega,?_⟩);have h1:=H5 he;have h2:=rS (y:=y) (i:=i) (by omega);have h3:=YD (val (o.take i)) (4294967296^i) (e+c);have h4:=KY (v:=(e+c)%4294967296) (show i<o.length by omega);rw[h4,h1,h2,Nat.pow_succ];generalize 4294967296^i=p at *;rw[h3,Nat.mul_add];omega
  ·obtain rfl:i=x.length:=by omega
   clear ih;(repeat' ((first|(apply A9<;>intro hc<;>try omega)|(apply B5;omega)|(apply II;omega)|apply BT|apply A2)<;>conv=>whnf))
   refine JW (by omega) ?_;(conv=>whnf)
   skip
   have hV:val (o.set x.length c)=val x+val y:=by
    have h4:=KY (v:=c) (show x.length<o.length by omega);rw[zT (by simp;omega)]at h4;rw[h4,p5,GV (Nat.le_refl _),GV hlen]
   have hD:B9 (o.set x.length c):=p3.set _ (by omega);have hL:(o.set x.length c).length=x.length+1:=by simpa using p2
   clear p3 p4 p5 p2;generalize o.set x.length c=O at *;rw[<-hL];refine LE 1000 N.KN rfl rfl ?_;(repeat' (apply A2<;>conv=>whnf))
   refine G6 (λ n=>n) (λ(n:Nat)=>n<=(O).length /\ ∀ i,n<=i->i<(O).length->(O)[i]? = some 0) (λ n=>[(3,.int .i64 n)]) (λ_=>[]) [] [] (O).length (by first|exact (by (conv=>whnf);exact ⟨rfl,rfl,rfl⟩)|(simp only[List.length_set,List.length_replicate];exact (by (conv=>whnf);exact ⟨rfl,rfl,rfl⟩))) ⟨Nat.le_refl _,λ i h1 h2=>by omega⟩ ?_;intro n ⟨p1,p2⟩ ih;rcases n with _|n
   ·(repeat' ((first|(apply A9<;>intro hc<;>try omega)|apply A2)<;>conv=>whnf))
    refine L6 0 (by omega) (by omega) ?_;(conv=>whnf)
    refine ⟨rfl,_,rfl,?_⟩;(conv=>whnf)
    have hm:=p1;have eo:=LH (l:=O) (by assumption) p1 p2 (Or.inl rfl);clear ih p1 p2;(refine M9 (enc:=BF) (λ_=>rfl) (by omega) ?_;(conv=>whnf);exact BV (by rw[<-hV,<-eo];rfl) (by simp only[B3,true_and];exact GC _))
   ·have e1:((n+1:Nat):Int)-1=n:=by omega
    (repeat' ((first|(apply A9<;>intro hc<;>try omega)|(apply B5;omega)|(apply DQ;omega)|(refine aU (by assumption) ?_ (λ v hv hb => ?_);omega)|apply A2)<;>conv=>whnf))
    ·rw[e1]
     exact CZ [] (ih n (by omega) ⟨by omega,λ i h1 h2=>by
      by_cases h:i=n
      ·subst h
       rw[e1,Int.toNat_natCast]at hv;rw[hv];congr 1;omega
      ·exact p2 i (by omega) h2⟩)
    ·refine L6 (n+1) (by omega) (by omega) ?_
     (conv=>whnf)
     refine ⟨rfl,_,rfl,?_⟩;(conv=>whnf)
     rw[e1,Int.toNat_natCast]at hv;have hm:=p1;have eo:=LH (l:=O) (by assumption) p1 p2 (Or.inr ⟨_,hv,by omega⟩);clear ih p1 p2 hv;(refine M9 (enc:=BF) (λ_=>rfl) (by omega) ?_;(conv=>whnf);exact BV (by rw[<-hV,<-eo];rfl) (by simp only[B3,true_and];exact GC _))
 ·generalize dg (val a)=x at *
  generalize dg (val b)=y at *;rw[<-v1,<-v2];have hlen:y.length<=x.length:=by omega
  have Bb:x.length<=1099511627775:=by omega
  clear v1 v2 hA hB la lb;refine GJ (enc:=BF) 0 (x.length+1) rfl (by omega) (by omega) ?_;(conv=>whnf)
  (repeat' (apply BT<;>conv=>whnf))
  refine LD (λ i _ _=>x.length-i) (λ(i:Nat) (o:List Nat) (c:Nat)=>i<=x.length/\o.length=x.length+1/\B9 o/\c<=1/\val (o.take i)+4294967296^i*c=val (x.take i)+val (y.take i)) (λ i o c=>[(8,.int .u64 (c:Int)),(29,.int .i64 i)]) (λ i o c=>[(26,26,.rw 1 (o.map BF))]) 0 (List.replicate (x.length+1) 0) 0 ⟨by omega,by simp,OS _,by omega,by simp [val]⟩ ?_;intro i o c ⟨p1,p2,p3,p4,p5⟩ ih;by_cases hi:i<x.length
  ·(repeat' ((first|(apply A9<;>intro hc<;>try omega)|(apply B5;omega)|(apply K0;omega)|(apply EM;omega)|apply KQ|apply BT|(refine nA (by assumption) ?_ (λ e he hb => ?_);omega)|apply A2)<;>conv=>whnf))
   ·rename_i d hd _
    refine JW (by omega) ?_;(conv=>whnf)
    (repeat' ((first|(apply BG;omega)|apply J2)<;>conv=>whnf))
    refine DP [] (by (conv=>whnf);exact ⟨rfl,rfl,rfl⟩) (ih (i+1) _ _ (by omega) ⟨by omega,by simpa using p2,p3.set _ (by omega),by omega,?_⟩);have h1:=H5 hd;have h2:=H5 he;have h3:=YD (val (o.take i)) (4294967296^i) (d+c+e);have h4:=KY (v:=(d+c+e)%4294967296) (show i<o.length by omega);rw[h4,h1,h2,Nat.pow_succ];generalize 4294967296^i=p at *;rw[h3,Nat.mul_add,Nat.mul_add];omega
   ·refine JW (by omega) ?_
    (conv=>whnf)
    (repeat' ((first|(apply BG;omega)|apply J2)<;>conv=>whnf))
    refine DP [] (by (conv=>whnf);exact ⟨rfl,rfl,rfl⟩) (ih (i+1) _ _ (by omega) ⟨by omega,by simpa using p2,p3.set _ (by omega),by omega,?_⟩);have h1:=H5 he;have h2:=rS (y:=y) (i:=i) (by omega);have h3:=YD (val (o.take i)) (4294967296^i) (e+c);have h4:=KY (v:=(e+c)%4294967296) (show i<o.length by omega);rw[h4,h1,h2,Nat.pow_succ];generalize 4294967296^i=p at *;rw[h3,Nat.mul_add];omega
  ·obtain rfl:i=x.length:=by omega
   clear ih;(repeat' ((first|(apply A9<;>intro hc<;>try omega)|(apply B5;omega)|(apply II;omega)|apply BT|apply A2)<;>conv=>whnf))
   refine JW (by omega) ?_;(conv=>whnf)
   skip
   have hV:val (o.set x.length c)=val x+val y:=by
    have h4:=KY (v:=c) (show x.length<o.length by omega);rw[zT (by simp;omega)]at h4;rw[h4,p5,GV (Nat.le_refl _),GV hlen]
   have hD:B9 (o.set x.length c):=p3.set _ (by omega);have hL:(o.set x.length c).length=x.length+1:=by simpa using p2
   clear p3 p4 p5 p2;generalize o.set x.length c=O at *;rw[<-hL];refine LE 1000 N.KN rfl rfl ?_;(repeat' (apply A2<;>conv=>whnf))
   refine G6 (λ n=>n) (λ(n:Nat)=>n<=(O).length /\ ∀ i,n<=i->i<(O).length->(O)[i]? = some 0) (λ n=>[(3,.int .i64 n)]) (λ_=>[]) [] [] (O).length (by first|exact (by (conv=>whnf);exact ⟨rfl,rfl,rfl⟩)|(simp only[List.length_set,List.length_replicate];exact (by (conv=>whnf);exact ⟨rfl,rfl,rfl⟩))) ⟨Nat.le_refl _,λ i h1 h2=>by omega⟩ ?_;intro n ⟨p1,p2⟩ ih;rcases n with _|n
   ·(repeat' ((first|(apply A9<;>intro hc<;>try omega)|apply A2)<;>conv=>whnf))
    refine L6 0 (by omega) (by omega) ?_;(conv=>whnf)
    refine ⟨rfl,_,rfl,?_⟩;(conv=>whnf)
    have hm:=p1;have eo:=LH (l:=O) (by assumption) p1 p2 (Or.inl rfl);clear ih p1 p2;(refine M9 (enc:=BF) (λ_=>rfl) (by omega) ?_;(conv=>whnf);exact BV (by rw[<-hV,<-eo];rfl) (by simp only[B3,true_and];exact GC _))
   ·have e1:((n+1:Nat):Int)-1=n:=by omega
    (repeat' ((first|(apply A9<;>intro hc<;>try omega)|(apply B5;omega)|(apply DQ;omega)|(refine aU (by assumption) ?_ (λ v hv hb => ?_);omega)|apply A2)<;>conv=>whnf))
    ·rw[e1]
     exact CZ [] (ih n (by omega) ⟨by omega,λ i h1 h2=>by
      by_cases h:i=n
      ·subst h
       rw[e1,Int.toNat_natCast]at hv;rw[hv];congr 1;omega
      ·exact p2 i (by omega) h2⟩)
    ·refine L6 (n+1) (by omega) (by omega) ?_
     (conv=>whnf)
     refine ⟨rfl,_,rfl,?_⟩;(conv=>whnf)
     rw[e1,Int.toNat_natCast]at hv;have hm:=p1;have eo:=LH (l:=O) (by assumption) p1 p2 (Or.inr ⟨_,hv,by omega⟩);clear ih p1 p2 hv;(refine M9 (enc:=BF) (λ_=>rfl) (by omega) ?_;(conv=>whnf);exact BV (by rw[<-hV,<-eo];rfl) (by simp only[B3,true_and];exact GC _))
theorem AjP {a b:Int} (h:GS a b<=0):a<=b:=by
 unfold GS at h;split at h
 ·omega
 ·split at h<;>omega
theorem AjQ {a b:Int} (h:0<GS a b):b<a:=by
 unfold GS at h;split at h
 ·omega
 ·split at h<;>omega
theorem AcK (N:c7 L) (a b:List Nat) (q1 q2:Bool) (hA:B9 a) (hB:B9 b) (la:a.length<=1099511627776) (lb:b.length<=1099511627776):Ev L 69 [.sl q1 (a.map BF),.sl q2 (b.map BF)] (.sl false ((dg (val a-val b)).map BF)):=by
 have l1:=JB hA;have l2:=JB hB;have d1:=HW (val a);have d2:=HW (val b);have v1:=EA (val a);have v2:=EA (val b);refine Ev.x N.R4 rfl rfl ?_;(repeat' ((first|(apply A9<;>intro hc<;>try omega)|apply BT|apply A2|refine AP (YN N a b _ _ hA hB la lb) ?_|refine PQ (P8 N a _ hA la) ?_|refine PQ (P8 N b _ hB lb) ?_)<;>conv=>whnf))
 ·have:=AjP hc
  refine BV ?_ (by simp only[B3,true_and];exact GC _);rw[show val a-val b=0 by omega,JL];rfl
 ·have l7:=AjQ hc
  have zl:(dg (val b)).length<=(dg (val a)).length:=by
   rcases Nat.lt_or_ge (dg (val a)).length (dg (val b)).length with h|h
   ·have:=iF h;omega
   ·exact h
  have zm:val b<val a:=by omega
  clear l7 hc;generalize dg (val a)=x at *;generalize dg (val b)=y at *;rw[<-v1,<-v2]at zm ⊢;clear v1 v2 hA hB lb;refine GJ (enc:=BF) 0 x.length rfl rfl (by omega) ?_;(conv=>whnf)
  (repeat' (apply BT<;>conv=>whnf))
  refine LD (λ i _ _=>x.length-i) (λ(i:Nat) (o:List Nat) (c:Nat)=>i<=x.length/\o.length=x.length/\B9 o/\c<=1/\val (o.take i)+val (y.take i)=val (x.take i)+4294967296^i*c) (λ i o c=>[(8,.int .u64 (c:Int)),(25,.int .i64 i)]) (λ i o c=>[(22,22,.rw 1 (o.map BF))]) 0 (List.replicate x.length 0) 0 ⟨by omega,by simp,OS _,by omega,by simp [val]⟩ ?_;intro i o c ⟨p1,p2,p3,p4,p5⟩ ih;by_cases hi:i<x.length
  ·(repeat' ((first|(apply A9<;>intro hc<;>try omega)|(apply B5;omega)|(apply mY;omega)|(apply EM;omega)|apply KQ|apply BT|(refine nA (by assumption) ?_ (λ e he hb => ?_);omega)|apply A2)<;>conv=>whnf))
   ·rename_i d hd br
    obtain ⟨s1,s2⟩:=AqZ br hb p4;refine JW (by omega) ?_;(conv=>whnf)
    (repeat' ((first|(apply BG;omega)|apply mT)<;>conv=>whnf))
    generalize IQ (IQ d c) e=t at *;refine DP [] (by (conv=>whnf);exact ⟨rfl,rfl,rfl⟩) (ih (i+1) _ _ (by omega) ⟨by omega,by simpa using p2,p3.set _ (by omega),s2,?_⟩);rw[KY (by omega),H5 hd,H5 he,Nat.pow_succ];exact Agm p5 s1
   ·obtain ⟨s1,s2⟩:=AqY hb p4
    refine JW (by omega) ?_;(conv=>whnf)
    (repeat' ((first|(apply BG;omega)|apply mT)<;>conv=>whnf))
    generalize IQ e c=t at *;refine DP [] (by (conv=>whnf);exact ⟨rfl,rfl,rfl⟩) (ih (i+1) _ _ (by omega) ⟨by omega,by simpa using p2,p3.set _ (by omega),s2,?_⟩);rw[KY (by omega),H5 he,rS (by omega),Nat.pow_succ];rw[<-Nat.add_zero (t%4294967296)]at s1;have:=Agm (e:=0) p5 s1
    rw[Nat.mul_zero,Nat.add_zero]at this;exact this
  ·obtain rfl:i=x.length:=by omega
   clear ih;have jb:c=0:=by
    rw[GV (by omega),GV zl,GV (Nat.le_refl _)]at p5;have:=JM p3
    rw[p2]at this;rcases Nat.eq_zero_or_pos c with h|h
    ·exact h
    ·have:c=1:=by omega
     subst this;omega
   subst jb;have hV:val o=val x-val y:=by
    rw[GV (by omega),GV zl,GV (Nat.le_refl _)]at p5;omega
   clear p5 p4;rw[<-p2];(repeat' ((first|(apply A9<;>intro hc<;>try omega)|apply A2)<;>conv=>whnf))
   refine LE 1000 N.KN rfl rfl ?_;(repeat' (apply A2<;>conv=>whnf))
   refine G6 (λ n=>n) (λ(n:Nat)=>n<=(o).length /\ ∀ i,n<=i->i<(o).length->(o)[i]? = some 0) (λ n=>[(3,.int .i64 n)]) (λ_=>[]) [] [] (o).length (by first|exact (by (conv=>whnf);exact ⟨rfl,rfl,rfl⟩)|(simp only[List.length_set,List.length_replicate];exact (by (conv=>whnf);exact ⟨rfl,rfl,rfl⟩))) ⟨Nat.le_refl _,λ i h1 h2=>by omega⟩ ?_;intro n ⟨p1,p2⟩ ih;rcases n with _|n
   ·(repeat' ((first|(apply A9<;>intro hc<;>try omega)|apply A2)<;>conv=>whnf))
    refine L6 0 (by omega) (by omega) ?_;(conv=>whnf)
    refine ⟨rfl,_,rfl,?_⟩;(conv=>whnf)
    have hm:=p1;have eo:=LH (l:=o) (by assumption) p1 p2 (Or.inl rfl);clear ih p1 p2;(refine M9 (enc:=BF) (λ_=>rfl) (by omega) ?_;(conv=>whnf);exact BV (by rw[<-hV,<-eo];rfl) (by simp only[B3,true_and];exact GC _))
   ·have e1:((n+1:Nat):Int)-1=n:=by omega
    (repeat' ((first|(apply A9<;>intro hc<;>try omega)|(apply B5;omega)|(apply DQ;omega)|(refine aU (by assumption) ?_ (λ v hv hb => ?_);omega)|apply A2)<;>conv=>whnf))
    ·rw[e1]
     exact CZ [] (ih n (by omega) ⟨by omega,λ i h1 h2=>by
      by_cases h:i=n
      ·subst h
       rw[e1,Int.toNat_natCast]at hv;rw[hv];congr 1;omega
      ·exact p2 i (by omega) h2⟩)
    ·refine L6 (n+1) (by omega) (by omega) ?_
     (conv=>whnf)
     refine ⟨rfl,_,rfl,?_⟩;(conv=>whnf)
     rw[e1,Int.toNat_natCast]at hv;have hm:=p1;have eo:=LH (l:=o) (by assumption) p1 p2 (Or.inr ⟨_,hv,by omega⟩);clear ih p1 p2 hv;(refine M9 (enc:=BF) (λ_=>rfl) (by omega) ?_;(conv=>whnf);exact BV (by rw[<-hV,<-eo];rfl) (by simp only[B3,true_and];exact GC _))
theorem uZ (N:c7 L) (a b:List Nat) (q1 q2:Bool) (hA:B9 a) (hB:B9 b) (lab:a.length+b.length<=1099511627776):Ev L 70 [.sl q1 (a.map BF),.sl q2 (b.map BF)] (.sl false ((dg (val a*val b)).map BF)):=by
 have l1:=JB hA;have l2:=JB hB;have d1:=HW (val a);have d2:=HW (val b);have v1:=EA (val a);have v2:=EA (val b);refine Ev.x N.R1 rfl rfl ?_;have hz : ∀ p:Prop,((dg (val a)).length:Int)=0\/((dg (val b)).length:Int)=0->BC (.sl false []) (.sl false ((dg (val a*val b)).map BF)):=λ_ h=>by
  have:val a*val b=0:=by
   rcases h with h|h
   ·have:dg (val a)=[]:=List.eq_nil_of_length_eq_zero (by omega)
    rw[uB.1 this,Nat.zero_mul]
   ·have:dg (val b)=[]:=List.eq_nil_of_length_eq_zero (by omega)
    rw[uB.1 this,Nat.mul_zero]
  exact BV (by rw[this,JL];rfl) (by simp only[B3,true_and];exact GC _)
 (repeat' ((first|(apply A9<;>intro hc<;>try omega)|(apply BG;omega)|apply BT|apply A2|refine PQ (P8 N a _ hA (by omega)) ?_|refine PQ (P8 N b _ hB (by omega)) ?_)<;>conv=>whnf))
 ·exact hz True (Or.inl hc)
 ·exact hz True (Or.inr hc)
 ·clear hz
  generalize dg (val a)=x at *;generalize dg (val b)=y at *;rw[<-v1,<-v2];have xv:x.length+y.length<=1099511627776:=by omega
  clear v1 v2 hA hB lab l1 l2;refine GJ (enc:=BF) 0 (x.length+y.length) rfl (by omega) (by omega) ?_;(conv=>whnf)
  (repeat' (apply BT<;>conv=>whnf))
  refine IX (λ i _=>x.length-i) (λ(i:Nat) (o:List Nat)=>i<=x.length/\o.length=x.length+y.length/\B9 o/\val o=val (x.take i)*val y /\ ∀ k,i+y.length<=k->k<o.length->o[k]? = some 0) (λ i o=>[(34,.int .i64 i)]) (λ i o=>[(31,31,.rw 1 (o.map BF))]) 0 (List.replicate (x.length+y.length) 0) ⟨by omega,by simp,OS _,by simp [val,rU],λ k h1 h2=>by simp at h2;simp [h2]⟩ ?_;intro i O ⟨p1,p2,p3,p4,p5⟩ ih;by_cases hi:i<x.length
  ·obtain ⟨d,hd⟩ : ∃ d,x[i]? = some d:=⟨_,zE hi⟩
   have br:=d1.at hd;(repeat' ((first|(apply A9<;>intro hc<;>try omega)|(apply BG;omega)|apply BT|(refine CN (by assumption) ?_ rfl ?_;omega)|apply A2)<;>conv=>whnf))
   ·refine DP [] (by (conv=>whnf);exact ⟨rfl,rfl,rfl⟩) (ih (i+1) O (by omega) ⟨by omega,p2,p3,?_,λ k h1 h2=>p5 k (by omega) h2⟩)
    rw[H5 hd,p4,show d=0 by omega,Nat.mul_zero,Nat.add_zero]
   ·refine LD (λ j _ _=>y.length-j) (λ(j:Nat) (o:List Nat) (c:Nat)=>j<=y.length/\o.length=x.length+y.length/\B9 o/\c<4294967296/\val o+4294967296^(i+j)*c=val O+4294967296^i*(d*val (y.take j)) /\ ∀ k,i+j<=k->o[k]? = O[k]?) (λ j o c=>[(10,.int .u64 (c:Int)),(43,.int .i64 j)]) (λ j o c=>[(31,31,.rw 1 (o.map BF))]) 0 O 0 ⟨by omega,p2,p3,by omega,by simp [val],λ_ _=>rfl⟩ ?_
    intro j o c ⟨r1,r2,r3,r4,r5,r6⟩ jh;have e1:((i:Int)+j).toNat=i+j:=by omega
    by_cases hj:j<y.length
    ·obtain ⟨w,hw⟩ : ∃ w,y[j]? = some w:=⟨_,zE hj⟩
     have Wz:=d2.at hw;have hm:=gA br Wz;(repeat' ((first|(apply A9<;>intro hc<;>try omega)|(apply B5;omega)|(apply BG;omega)|(apply K0;omega)|(apply X6;omega)|(apply EM;omega)|apply KQ|(refine CN (by assumption) ?_ rfl ?_;omega)|(refine Ym (by assumption) ?_ (λ v hv hb => ?_);omega)|apply A2)<;>conv=>whnf))
     refine nD (i+j) (by omega) (by omega) ?_;(conv=>whnf)
     (repeat' ((first|(apply BG;omega)|apply J2)<;>conv=>whnf))
     refine DP [] (by (conv=>whnf);exact ⟨rfl,rfl,rfl⟩) (jh (j+1) _ _ (by omega) ⟨by omega,by simpa using r2,r3.set _ (by omega),by omega,?_,?_⟩)
     ·have h1:=rR (v:=(d*w+v+c)%4294967296) hv
      have h2:=YD 0 (4294967296^(i+j)) (d*w+v+c);rw[H5 hw,show i+(j+1)=i+j+1 by omega,Nat.pow_succ (4294967296) (i+j)];have h3:4294967296^i*(d*(val (y.take j)+4294967296^j*w))=4294967296^i*(d*val (y.take j))+4294967296^(i+j)*(d*w):=by rw[Nat.pow_add];grind
      rw[h3];generalize 4294967296^(i+j)=P at *;rw[Nat.mul_add P,Nat.mul_add P]at h2;omega
     ·intro k hk
      rw[List.getElem?_set_ne (by omega)];exact r6 k (by omega)
    ·obtain rfl:j=y.length:=by omega
     clear jh;(repeat' ((first|(apply A9<;>intro hc<;>try omega)|(apply B5;omega)|(apply BG;omega)|(apply II;omega)|apply BT|apply A2)<;>conv=>whnf))
     have hz:=r6 (i+y.length) (by omega);rw[p5 (i+y.length) (by omega) (by omega)]at hz;refine nD (i+y.length) (by omega) (by omega) ?_;(conv=>whnf)
     (repeat' ((first|(apply BG;omega)|fail)<;>conv=>whnf))
     refine DP [] (by (conv=>whnf);exact ⟨rfl,rfl,rfl⟩) (ih (i+1) _ (by omega) ⟨by omega,by simpa using r2,r3.set _ (by omega),?_,?_⟩)
     ·have h1:=rR (v:=c) hz
      rw[Nat.mul_zero,Nat.add_zero]at h1;rw[h1,r5,p4,GV (Nat.le_refl _),H5 hd,Nat.add_mul,Nat.mul_assoc]
     ·intro k h1 h2
      rw[List.length_set]at h2;rw[List.getElem?_set_ne (by omega),r6 k (by omega)];exact p5 k (by omega) (by omega)
  ·obtain rfl:i=x.length:=by omega
   clear ih;rw[GV (Nat.le_refl _)]at p4;rw[<-p4,<-p2];(repeat' ((first|(apply A9<;>intro hc<;>try omega)|apply A2)<;>conv=>whnf))
   clear p5;refine LE 1000 N.KN rfl rfl ?_;(repeat' (apply A2<;>conv=>whnf))
   refine G6 (λ n=>n) (λ(n:Nat)=>n<=(O).length /\ ∀ i,n<=i->i<(O).length->(O)[i]? = some 0) (λ n=>[(3,.int .i64 n)]) (λ_=>[]) [] [] (O).length (by first|exact (by (conv=>whnf);exact ⟨rfl,rfl,rfl⟩)|(simp only[List.length_set,List.length_replicate];exact (by (conv=>whnf);exact ⟨rfl,rfl,rfl⟩))) ⟨Nat.le_refl _,λ i h1 h2=>by omega⟩ ?_;intro n ⟨p1,p2⟩ ih;rcases n with _|n
   ·(repeat' ((first|(apply A9<;>intro hc<;>try omega)|apply A2)<;>conv=>whnf))
    refine L6 0 (by omega) (by omega) ?_;(conv=>whnf)
    refine ⟨rfl,_,rfl,?_⟩;(conv=>whnf)
    have hm:=p1;have eo:=LH (l:=O) (by assumption) p1 p2 (Or.inl rfl);clear ih p1 p2;(refine M9 (enc:=BF) (λ_=>rfl) (by omega) ?_;(conv=>whnf);exact BV (by rw[<-eo];rfl) (by simp only[B3,true_and];exact GC _))
   ·have e1:((n+1:Nat):Int)-1=n:=by omega
    (repeat' ((first|(apply A9<;>intro hc<;>try omega)|(apply B5;omega)|(apply DQ;omega)|(refine aU (by assumption) ?_ (λ v hv hb => ?_);omega)|apply A2)<;>conv=>whnf))
    ·rw[e1]
     exact CZ [] (ih n (by omega) ⟨by omega,λ i h1 h2=>by
      by_cases h:i=n
      ·subst h
       rw[e1,Int.toNat_natCast]at hv;rw[hv];congr 1;omega
      ·exact p2 i (by omega) h2⟩)
    ·refine L6 (n+1) (by omega) (by omega) ?_
     (conv=>whnf)
     refine ⟨rfl,_,rfl,?_⟩;(conv=>whnf)
     rw[e1,Int.toNat_natCast]at hv;have hm:=p1;have eo:=LH (l:=O) (by assumption) p1 p2 (Or.inr ⟨_,hv,by omega⟩);clear ih p1 p2 hv;(refine M9 (enc:=BF) (λ_=>rfl) (by omega) ?_;(conv=>whnf);exact BV (by rw[<-eo];rfl) (by simp only[B3,true_and];exact GC _))
end Go.b8

namespace Go.b8
open F
section
variable {K:AV->Prop} {a b s:Nat} {k':IntKind}
theorem Ys (hs:s<=32) (hk:K (.int .u32 ((Y3 a s:Nat):Int))):AU .shl .u32 (a:Int) k' (s:Int) K:=by
 refine sI (show s<=IntKind.u32.bits from hs) ?_;rw[wrap_u32,<-zH];exact hk
theorem YA (hs:s<=64) (h:a*2^s<=18446744073709551615) (hk:K (.int .u64 ((a*2^s:Nat):Int))):AU .shl .u64 (a:Int) k' (s:Int) K:=by
 refine sI (show s<=IntKind.u64.bits from hs) ?_;rw[IntWalk.u64_in _ (by omega)];exact hk
theorem sJ (n:Nat) (hx:a%2^n=0) (hy:b<2^n) (h:a+b<=4294967295) (hk:K (.int .u32 ((a+b:Nat):Int))):AU .or .u32 (a:Int) .u32 (b:Int) K :=
 sH n hx hy (show a+b<4294967296 by omega) (IntWalk.u32_in _ (by omega)) hk
theorem Aio (n:Nat) (hx:b%2^n=0) (hy:a<2^n) (h:a+b<=4294967295) (hk:K (.int .u32 ((a+b:Nat):Int))):AU .or .u32 (a:Int) .u32 (b:Int) K:=by
 have e:GF .or .u32 (a:Int) .u32 (b:Int)=GF .or .u32 (b:Int) .u32 (a:Int):=by
  simp only[GF,if_true,BitVec.or_comm]
 rw[Nat.add_comm]at hk h;obtain ⟨v,h1,h2⟩:=sJ (K:=K) n hx hy h hk;exact ⟨v,by rw[e];exact h1,h2⟩
theorem Aiq (hs:s<=32) (hk:K (.int .u32 ((a/2^s:Nat):Int))):AU .shr .u32 (a:Int) k' (s:Int) K:=X9 (show s<=IntKind.u32.bits from hs) hk
end
attribute [local irreducible] AJ A3 BU AU FE BR C1 CK DS DE FA G7 DR B2 EH E5 AL CQ BC pw FM E2 F7 G8 GX EG FK EE FZ
set_option maxHeartbeats 1000000
variable {L:Lib}
def sG (a:List Nat) (s:Nat) (o:List Nat):Prop:=B9 o/\(a.length<=o.length/\o.length<=a.length+1)/\(val a*2^s<4294967296^o.length->val o=val a*2^s)
theorem AoE {a o:List Nat} {s lo:Nat} (hD:B9 o) (hl:o.length=a.length) (h:val (o.take a.length)+4294967296^a.length*lo=val (a.take a.length)*2^s):sG a s o:=by
 refine ⟨hD,by omega,λ l7 => ?_⟩;rw[GV (by omega),GV (Nat.le_refl _)]at h;rw[hl]at l7;have:lo=0:=by
  rcases Nat.eq_zero_or_pos lo with h0|h0
  ·exact h0
  ·have:4294967296^a.length*1<=4294967296^a.length*lo:=Nat.mul_le_mul_left _ h0
   omega
 subst this;omega
theorem Aeo {a o:List Nat} {s lo:Nat} (hD:B9 o) (nz:lo<4294967296) (hl:o.length=a.length+1) (h:val (o.take a.length)+4294967296^a.length*lo=val (a.take a.length)*2^s):sG a s (o.set a.length lo):=by
 refine ⟨hD.set _ nz,by simp;omega,λ_ => ?_⟩;have h1:=KY (v:=lo) (show a.length<o.length by omega);rw[GV (by simp;omega),h,GV (Nat.le_refl _)]at h1;exact h1
theorem Ami (N:c7 L) (a:List Nat) (q:Bool) (s n:Nat) (hA:B9 a) (hs:s<=31) (hn:a.length<=n/\n<=a.length+1) (la:a.length<=1099511627776) : ∃ r,Ev L 71 [.sl q (a.map BF),.int .u64 (s:Int),.int .i64 (n:Int)] r /\ ∃ o,sG a s o/\o.length=n/\r = .sl false (o.map BF):=by
 refine Ev.xE N.PB rfl rfl ?_;(repeat' (apply A2<;>conv=>whnf))
 refine GJ (enc:=BF) 0 n rfl rfl (by omega) ?_;(conv=>whnf)
 (repeat' (apply BT<;>conv=>whnf))
 refine LD (λ i _ _=>a.length-i) (λ(i:Nat) (o:List Nat) (lo:Nat)=>i<=a.length/\o.length=n/\B9 o/\lo<2^s/\val (o.take i)+4294967296^i*lo=val (a.take i)*2^s) (λ i o lo=>[(8,.int .u32 (lo:Int)),(15,.int .i64 i)]) (λ i o lo=>[(71012,71012,.rw 1 (o.map BF))]) 0 (List.replicate n 0) 0 ⟨by omega,by simp,OS _,Nat.two_pow_pos s,by simp [val]⟩ ?_;intro i o lo ⟨p1,p2,p3,p4,p5⟩ ih;have xi:=kX (s:=s) (by omega);by_cases hi:i<a.length
 ·obtain ⟨d,hd⟩ : ∃ d,a[i]? = some d:=⟨_,zE hi⟩
  have br:=hA.at hd;obtain ⟨f1,f2,f3,f4⟩:=cX (s:=s) br (by omega);(repeat' ((first|(apply A9<;>intro hc<;>try omega)|(refine CN (by assumption) ?_ rfl ?_;omega)|apply A2)<;>conv=>whnf))
  refine Ys (by omega) ?_;(conv=>whnf)
  skip
  refine sJ s f1 p4 (by omega) ?_;(conv=>whnf)
  (repeat' ((first|(apply B5;omega)|fail)<;>conv=>whnf))
  refine JW (by omega) ?_;(conv=>whnf)
  (repeat' ((first|(apply EM;omega)|fail)<;>conv=>whnf))
  refine YA (by omega) f4 ?_;(conv=>whnf)
  (repeat' ((first|(apply BG;omega)|apply J2|(apply II;omega))<;>conv=>whnf))
  rw[<-cU];refine DP [] (by (conv=>whnf);exact ⟨rfl,rfl,rfl⟩) (ih (i+1) _ _ (by omega) ⟨by omega,by simpa using p2,p3.set _ (by omega),f2,?_⟩);rw[KY (by omega),H5 hd,Nat.pow_succ];exact Aep p5
 ·obtain rfl:i=a.length:=by omega
  clear ih;(repeat' ((first|(apply A9<;>intro hc<;>try omega)|(apply B5;omega)|apply BT|apply A2)<;>conv=>whnf))
  ·refine JW (by omega) ?_
   (conv=>whnf)
   skip
   refine ⟨_,?_,_,Aeo p3 (by omega) (by omega) p5,by simpa using p2,rfl⟩;(conv=>whnf)
   refine FO (enc:=BF) (λ_=>rfl) rfl (by simp [p2]) ?_;(conv=>whnf)
   exact BV rfl (by simp only[B3,true_and];exact GC _)
  ·refine ⟨_,?_,_,AoE p3 (by omega) p5,p2,rfl⟩
   (conv=>whnf)
   refine FO (enc:=BF) (λ_=>rfl) rfl (by simp [p2]) ?_;(conv=>whnf)
   exact BV rfl (by simp only[B3,true_and];exact GC _)
theorem Amj (N:c7 L) (a:List Nat) (q:Bool) (s:Nat) (hA:B9 a) (hs:s<=31) (la:a.length<=1099511627776) : ∃ r,Ev L 72 [.sl q (a.map BF),.int .u64 (s:Int)] r /\ ∃ o,B9 o/\o.length=a.length/\val o=val a/2^s/\r = .sl false (o.map BF):=by
 refine Ev.xE N.SD rfl rfl ?_;(repeat' ((first|apply BT|apply A2)<;>conv=>whnf))
 refine GJ (enc:=BF) 0 a.length rfl rfl (by omega) ?_;(conv=>whnf)
 (repeat' ((first|(apply DQ;omega)|apply BT)<;>conv=>whnf))
 refine LD (λ n _ _=>n) (λ(n:Nat) (o:List Nat) (hi:Nat)=>n<=a.length/\o.length=a.length/\B9 o/\hi=val (a.drop n)%2^s*2^(32-s)/\val (o.drop n)=val (a.drop n)/2^s) (λ n o hi=>[(6,.int .u32 (hi:Int)),(7,.int .i64 ((n:Int)-1))]) (λ n o hi=>[(10,10,.rw 1 (o.map BF))]) a.length (List.replicate a.length 0) 0 ⟨by omega,by simp,OS _,by rw[List.drop_of_length_le (Nat.le_refl _)];simp [val],by rw[List.drop_of_length_le (Nat.le_refl _),List.drop_of_length_le (by simp)];simp [val]⟩ ?_;intro n o hi ⟨p1,p2,p3,p4,p5⟩ ih;rcases n with _|n
 ·(repeat' ((first|(apply A9<;>intro hc<;>try omega)|apply A2)<;>conv=>whnf))
  rw[List.drop_zero,List.drop_zero]at p5;refine ⟨_,?_,_,p3,p2,p5,rfl⟩;(conv=>whnf)
  refine FO (enc:=BF) (λ_=>rfl) rfl p2.symm ?_;(conv=>whnf)
  exact BV rfl (by simp only[B3,true_and];exact GC _)
 ·have e1:((n+1:Nat):Int)-1=n:=by omega
  rw[e1];obtain ⟨d,hd⟩ : ∃ d,a[n]? = some d:=⟨_,zE (by omega)⟩;have br:=hA.at hd;obtain ⟨f1,f2,f3⟩:=Aeu (V:=val (a.drop (n+1))) br (show s<=32 by omega);obtain ⟨g1,g2,g3,g4⟩:=cX br (show 32-s<=32 by omega);rw[<-p4]at f2 f3;(repeat' ((first|(apply A9<;>intro hc<;>try omega)|(refine CN (by assumption) ?_ rfl ?_;omega)|apply A2)<;>conv=>whnf))
  refine Aiq (by omega) ?_;(conv=>whnf)
  skip
  refine Aio (32-s) f2 f1 (by omega) ?_;(conv=>whnf)
  (repeat' ((first|(apply B5;omega)|fail)<;>conv=>whnf))
  refine JW (by omega) ?_;(conv=>whnf)
  (repeat' ((first|(apply mY;omega)|(apply EM;omega)|(refine CN (by assumption) ?_ rfl ?_;omega))<;>conv=>whnf))
  rw[show IQ 32 s=32-s by rw[dH];omega];refine YA (by omega) g4 ?_;(conv=>whnf)
  (repeat' ((first|(apply DQ;omega)|apply KQ)<;>conv=>whnf))
  rw[AoM (by omega)];refine DP [] (by (conv=>whnf);exact ⟨rfl,rfl,rfl⟩) (ih n _ _ (by omega) ⟨by omega,by simpa using p2,p3.set _ (by omega),?_,?_⟩)
  ·rw[MN hd,Aev (by omega)]
  ·rw[MN (l:=o.set n (d/2^s+hi)) (d:=d/2^s+hi) (by rw[List.getElem?_set_self (by omega)]),List.drop_set_of_lt (by omega),p5,MN hd,xD (by omega),<-p4]
theorem pK : ∀ n<256,(List.replicate 1 0++List.replicate 1 1++List.replicate 2 2++List.replicate 4 3++List.replicate 8 4++List.replicate 16 5++List.replicate 32 6++List.replicate 64 7++List.replicate 128 8)[n]? = some (v5 n):=by decide +kernel
theorem AlO (N:c7 L) (x:Nat) (hx:x<4294967296):Ev L 63 [.int .u32 (x:Int)] (.int .i64 (v5 x:Int)):=by
 have nf : ∀ y<256,v5 y<=8:=λ y h=>nI (k:=8) h
 refine Ev.x N.RT rfl rfl ?_;(repeat' ((first|(apply A9<;>intro hc<;>try omega)|(apply BG;omega)|apply Ail|apply Ain|(apply Aia;omega)|apply A2)<;>conv=>whnf))
 ·have To:=nf (x/65536/256) (by omega)
  refine nE (pK _ (by omega)) ?_;(conv=>whnf)
  (repeat' ((first|(apply BG;omega)|(apply aM;omega))<;>conv=>whnf))
  have h1:v5 (x/65536)+16=v5 x:=iX 16 (x:=x) (by omega);have h2:v5 (x/65536/256)+8=v5 (x/65536):=iX 8 (x:=x/65536) (by omega);refine ET ?_;rw[<-h1,<-h2];omega
 ·have To:=nf (x/65536) (by omega)
  refine nE (pK _ (by omega)) ?_;(conv=>whnf)
  (repeat' ((first|(apply BG;omega)|(apply aM;omega))<;>conv=>whnf))
  have h1:v5 (x/65536)+16=v5 x:=iX 16 (x:=x) (by omega);refine ET ?_;rw[<-h1];omega
 ·have To:=nf (x/256) (by omega)
  refine nE (pK _ (by omega)) ?_;(conv=>whnf)
  (repeat' ((first|(apply BG;omega)|(apply aM;omega))<;>conv=>whnf))
  have h2:v5 (x/256)+8=v5 x:=iX 8 (x:=x) (by omega);refine ET ?_;rw[<-h2];omega
 ·have To:=nf (x) (by omega)
  refine nE (pK _ (by omega)) ?_;(conv=>whnf)
  (repeat' ((first|(apply BG;omega)|(apply aM;omega))<;>conv=>whnf))
  refine ET ?_;omega
theorem Acx (N:c7 L) (x:Nat) (hx:x<4294967296):Ev L 64 [.int .u32 (x:Int)] (.int .i64 ((32-v5 x:Nat):Int)):=by
 have h:=nI (k:=32) hx;refine Ev.x N.RS rfl rfl ?_;(repeat' ((first|(apply DQ;omega)|apply A2|refine AP (AlO N x hx) ?_)<;>conv=>whnf))
 refine ET ?_;omega
end Go.b8

namespace Go.b8
open F
attribute [local irreducible] AJ A3 BU AU FE BR C1 CK DS DE FA G7 DR B2 EH E5 AL CQ BC pw FM E2 F7 G8 GX EG FK EE FZ
variable {L:Lib}
set_option maxHeartbeats 4000000
theorem O4 (l:List Nat):B3 (.sl false (l.map BF)):=by
 simp only[B3,true_and];exact GC l
theorem Xz {M:Mem} {v:AV} {ky t z off len s:Nat} {l:List Nat} (hv:v = .row ky t z off len) (h:c4 M ky=some (s,.rw 1 (l.map BF))):aZ M v=none:=by
 subst hv;unfold aZ;split
 ·rename_i e
  simp only[AV.row.injEq]at e;obtain ⟨rfl,_⟩:=e;rw[h];cases l with
  | nil=>rfl
  | cons a l=>cases l<;>rfl
 ·rfl
theorem K3 (N:a6 L) (l:List Nat) (q:Bool) (hD:B9 l) (hl:l.length<=1099511627776):Ev L 101 [.sl q (l.map BF)] (.sl false ((dg (val l)).map BF)):=by
 refine Ev.x N.M3 rfl rfl ?_;(repeat' ((first|apply BT|apply A2)<;>conv=>whnf))
 refine G5 (λ n=>n) (λ(n:Nat)=>n<=l.length /\ ∀ i,n<=i->i<l.length->l[i]? = some 0) (λ n=>[(3,.int .i64 n)]) (λ_=>[]) l.length ⟨Nat.le_refl _,λ i h1 h2=>by omega⟩ ?_;intro n ⟨p1,p2⟩ ih;rcases n with _|n
 ·have hv:=LH hD p1 p2 (Or.inl rfl)
  rw[<-hv];clear ih;(repeat' ((first|(apply A9<;>intro hc<;>try omega)|apply A2)<;>conv=>whnf))
  refine QE (k:=0) (λ_=>rfl) (by omega) ?_;(conv=>whnf)
  refine ZB (enc:=BF) (λ_=>rfl) (by rw[List.length_take];omega) (by rw[List.length_take];omega) ?_;(conv=>whnf)
  (repeat' ((refine FO (λ_=>rfl) rfl ?_ ?_;(first|rfl|simp))<;>conv=>whnf))
  exact BV rfl (O4 _)
 ·have e1:((n+1:Nat):Int)-1=n:=by omega
  (repeat' ((first|(apply A9<;>intro hc<;>try omega)|(apply DQ;omega)|(refine ZJ (by assumption) ?_ (λ e he hb => ?_);omega)|apply A2)<;>conv=>whnf))
  ·rw[e1]
   exact CZ [] (ih n (by omega) ⟨by omega,λ i h1 h2=>by
    by_cases h:i=n
    ·subst h
     rw[e1,Int.toNat_natCast]at he;rw[he];congr 1;omega
    ·exact p2 i (by omega) h2⟩)
  ·rw[e1,Int.toNat_natCast]at he
   have hv:=LH hD p1 p2 (Or.inr ⟨e,he,by omega⟩);rw[<-hv];clear ih;refine QE (k:=n+1) (λ_=>rfl) (by omega) ?_;(conv=>whnf)
   refine ZB (enc:=BF) (λ_=>rfl) (by rw[List.length_take];omega) (by rw[List.length_take];omega) ?_;(conv=>whnf)
   (repeat' ((refine FO (λ_=>rfl) rfl ?_ ?_;(first|rfl|simp))<;>conv=>whnf))
   exact BV rfl (O4 _)
theorem vD (N:a6 L) (a b:List Nat) (q1 q2:Bool) (hA:B9 a) (hB:B9 b) (la:a.length<=1099511627776) (lb:b.length<=1099511627776):Ev L 102 [.sl q1 (a.map BF),.sl q2 (b.map BF)] (.int .i64 (GS (val a) (val b))):=by
 have t1:=λ q=>K3 N a q hA la
 have t2:=λ q=>K3 N b q hB lb
 have l1:=JB hA;have l2:=JB hB;have d1:=HW (val a);have d2:=HW (val b);refine Ev.x N.UI rfl rfl ?_;by_cases hlen:(dg (val a)).length=(dg (val b)).length
 ·have v1:=EA (val a)
  have v2:=EA (val b);generalize dg (val a)=X at *;generalize dg (val b)=Y at *;(repeat' ((first|(apply A9<;>intro hc<;>try omega)|(apply DQ;omega)|apply BT|apply A2|refine AP (t1 _) ?_|refine AP (t2 _) ?_)<;>conv=>whnf))
  refine G5 (λ n=>n) (λ(n:Nat)=>n<=X.length/\X.drop n=Y.drop n) (λ n=>[(5,.int .i64 ((n:Int)-1))]) (λ_=>[]) X.length ⟨Nat.le_refl _,by rw[List.drop_of_length_le (Nat.le_refl _),List.drop_of_length_le (by omega)]⟩ ?_;intro n ⟨p1,p2⟩ ih;rcases n with _|n
  ·(repeat' ((first|(apply A9<;>intro hc<;>try omega)|apply A2)<;>conv=>whnf))
   rw[List.drop_zero,List.drop_zero]at p2;exact ET (bF (by rw[<-v1,<-v2,p2]))
  ·have e1:((n+1:Nat):Int)-1=n:=by omega
   rw[e1];obtain ⟨x,hx⟩ : ∃ x,X[n]? = some x:=⟨_,zE (by omega)⟩;obtain ⟨y,hy⟩ : ∃ y,Y[n]? = some y:=⟨_,zE (by omega)⟩;rcases Nat.lt_trichotomy x y with h|h|h
   ·have:=rP d1 d2 hlen hx hy p2 h
    (repeat' ((first|(apply A9<;>intro hc<;>try omega)|(refine CN (by assumption) ?_ rfl ?_;omega)|apply A2)<;>conv=>whnf))
    exact ET (NT (by omega))
   ·subst h
    (repeat' ((first|(apply A9<;>intro hc<;>try omega)|(apply DQ;omega)|(refine CN (by assumption) ?_ rfl ?_;omega)|apply A2)<;>conv=>whnf))
    refine DP [] (by (conv=>whnf);exact ⟨rfl,rfl,rfl⟩) (ih n (by omega) ⟨by omega,?_⟩);obtain ⟨i1,e1⟩:=zS hx;obtain ⟨i2,e2⟩:=zS hy;rw[List.drop_eq_getElem_cons i1,List.drop_eq_getElem_cons i2,p2,e1,e2]
   ·have:=rP d2 d1 hlen.symm hy hx p2.symm h
    (repeat' ((first|(apply A9<;>intro hc<;>try omega)|(refine CN (by assumption) ?_ rfl ?_;omega)|apply A2)<;>conv=>whnf))
    exact ET (W8 (by omega))
 ·rcases Nat.lt_trichotomy (dg (val a)).length (dg (val b)).length with h1|h1|h1
  ·have:=iF h1
   (repeat' ((first|(apply A9<;>intro hc<;>try omega)|apply BT|apply A2|refine AP (t1 _) ?_|refine AP (t2 _) ?_)<;>conv=>whnf))
   exact ET (NT (by omega))
  ·exact absurd h1 hlen
  ·have:=iF h1
   (repeat' ((first|(apply A9<;>intro hc<;>try omega)|apply BT|apply A2|refine AP (t1 _) ?_|refine AP (t2 _) ?_)<;>conv=>whnf))
   exact ET (W8 (by omega))
theorem Qu {y:List Nat} (i:Nat):val (y.take (i+1))=val (y.take i)+4294967296^i*y.getD i 0:=by
 rcases Nat.lt_or_ge i y.length with h|h
 ·rw[H5 (zE h),LY (zE h)]
 ·rw[<-Z5 h,GV h,GV (by omega)];omega
theorem AcX (N:a6 L) (a b:List Nat) (q1 q2:Bool) (hA:B9 a) (hB:B9 b) (la:a.length<=549755813888) (lb:b.length<=549755813888):Ev L 103 [.sl q1 (a.map BF),.sl q2 (b.map BF)] (.sl false ((dg (val a+val b)).map BF)):=by
 refine Ev.x N.UG rfl rfl ?_;(repeat' (apply A2<;>conv=>whnf))
 refine LD (λ i _ _=>a.length+b.length-i) (λ(i:Nat) (o:List Nat) (c:Nat)=>(i<=a.length\/i<=b.length)/\o.length=i/\B9 o/\c<=1/\val o+4294967296^i*c=val (a.take i)+val (b.take i)) (λ i o c=>[(7,.int .i64 i),(6,.int .u64 (c:Int)),(5,.row 5 0 1 0 o.length)]) (λ i o c=>[(5,5,.rw 1 (o.map BF))]) 0 [] 0 ⟨by omega,rfl,eH,by omega,by simp [val]⟩ ?_;intro i o c ⟨p1,p2,p3,p4,p5⟩ ih;by_cases hi:i<a.length\/i<b.length
 ·have g1:=Qu (y:=a) i
  have g2:=Qu (y:=b) i;have k1:=Z4 hA i;have k2:=Z4 hB i;have j8 : ∀ t,t=c+a.getD i 0+b.getD i 0->val (o++[t%4294967296])+4294967296^(i+1)*(t/4294967296)=val (a.take (i+1))+val (b.take (i+1)):=λ t ht=>by
   have h3:=YD (val o) (4294967296^i) t;rw[WD,p2,g1,g2,Nat.pow_succ];rw[h3,ht,Nat.mul_add,Nat.mul_add];omega
  by_cases h1:i<a.length
  ·obtain ⟨x,hx⟩ : ∃ x,a[i]? = some x:=⟨_,zE h1⟩
   have xu:=hA.at hx;rw[LY hx]at j8;by_cases h2:i<b.length
   ·obtain ⟨y,hy⟩ : ∃ y,b[i]? = some y:=⟨_,zE h2⟩
    have Ix:=hB.at hy;rw[LY hy]at j8;(repeat' ((first|(apply A9<;>intro hc<;>try omega)|(apply K0;omega)|(apply EM;omega)|apply KQ|apply BT|(refine CN (by assumption) ?_ rfl ?_;omega)|apply GY|apply A2)<;>conv=>whnf))
    refine H8 (enc:=BF) (((c+x+y)%4294967296:Nat)) rfl rfl rfl (by omega) (by omega) ?_;(conv=>whnf)
    (repeat' ((first|(apply BG;omega)|apply J2)<;>conv=>whnf))
    refine DP [(5,46)] (by (conv=>whnf);exact ⟨rfl,rfl,rfl⟩) (ih (i+1) (o++[(c+x+y)%4294967296]) ((c+x+y)/4294967296) (by omega) ⟨by omega,by simp;omega,p3.append (MS (by omega)),by omega,?_⟩);exact j8 (c+x+y) (by omega)
   ·rw[<-Z5 (show b.length<=i by omega)]at j8
    (repeat' ((first|(apply A9<;>intro hc<;>try omega)|(apply K0;omega)|(apply EM;omega)|apply KQ|apply BT|(refine CN (by assumption) ?_ rfl ?_;omega)|apply GY|apply A2)<;>conv=>whnf))
    refine H8 (enc:=BF) (((c+x)%4294967296:Nat)) rfl rfl rfl (by omega) (by omega) ?_;(conv=>whnf)
    (repeat' ((first|(apply BG;omega)|apply J2)<;>conv=>whnf))
    refine DP [(5,46)] (by (conv=>whnf);exact ⟨rfl,rfl,rfl⟩) (ih (i+1) (o++[(c+x)%4294967296]) ((c+x)/4294967296) (by omega) ⟨by omega,by simp;omega,p3.append (MS (by omega)),by omega,?_⟩);exact j8 (c+x) (by omega)
  ·obtain ⟨y,hy⟩ : ∃ y,b[i]? = some y:=⟨_,zE (by omega)⟩
   have Ix:=hB.at hy;rw[LY hy,<-Z5 (show a.length<=i by omega)]at j8;(repeat' ((first|(apply A9<;>intro hc<;>try omega)|(apply K0;omega)|(apply EM;omega)|apply KQ|apply BT|(refine CN (by assumption) ?_ rfl ?_;omega)|apply GY|apply A2)<;>conv=>whnf))
   refine H8 (enc:=BF) (((c+y)%4294967296:Nat)) rfl rfl rfl (by omega) (by omega) ?_;(conv=>whnf)
   (repeat' ((first|(apply BG;omega)|apply J2)<;>conv=>whnf))
   refine DP [(5,46)] (by (conv=>whnf);exact ⟨rfl,rfl,rfl⟩) (ih (i+1) (o++[(c+y)%4294967296]) ((c+y)/4294967296) (by omega) ⟨by omega,by simp;omega,p3.append (MS (by omega)),by omega,?_⟩);exact j8 (c+y) (by omega)
 ·clear ih
  have hv:val (o++[c])=val a+val b:=by
   rw[GV (by omega),GV (by omega)]at p5;rw[WD,p2,p5]
  have hT:=λ q=>K3 N (o++[c]) q (p3.append (MS (by omega))) (by simp;omega)
  rw[hv]at hT;(repeat' ((first|(apply A9<;>intro hc<;>try omega)|(apply II;omega)|apply BT|apply GY|apply A2)<;>conv=>whnf))
  refine H8 (enc:=BF) c rfl rfl rfl (by omega) (by omega) ?_;(conv=>whnf)
  (repeat' ((first|(refine FO (λ_=>rfl) rfl ?_ ?_;(first|rfl|simp))|refine AP (hT _) ?_)<;>conv=>whnf))
  exact BV rfl (O4 _)
theorem nS {a b:Nat} (h:b<=a):0<=GS a b:=by unfold GS;split<;>(try split)<;>omega
theorem Aqc {V Y X p d e bw have' take w dn:Nat} (h:V+Y=X+p*bw) (h1:take=bw+e) (h2:(have'=d/\dn=0/\take<=d)\/(have'=d+4294967296/\dn=1/\d<take)) (h3:w+take=have'):V+p*w+(Y+p*e)=X+p*d+p*4294967296*dn:=by
 have h4:w+bw+e=d+4294967296*dn:=by omega
 have h5:p*(w+bw+e)=p*(d+4294967296*dn):=by rw[h4]
 rw[Nat.mul_add,Nat.mul_add,Nat.mul_add,<-Nat.mul_assoc]at h5;omega
theorem Afp (N:a6 L) (x y:List Nat) (hX:B9 x) (hY:B9 y) (lx:x.length<=549755813888) (ly:y.length<=549755813888) (hle:val y<=val x) :
  AJ L [It.lp OW.l1,It.c9 0,It.code (((DD.ops OW.bg false).dr [1,5,6,7,21,53,54] []).seq DD.ret)]
  [(7,AV.int IntKind.i64 0),(6,AV.int IntKind.u64 0),(5,AV.row 101021 0 1 0 x.length),(1,AV.sl false (List.map BF y))]
  [(101021,101021,C3.rw 1 (List.map BF x))]
  (YB OW (AV.sl false (List.map BF (dg (val x-val y))))):=by
 refine LD (λ i _ _=>x.length-i) (λ(i:Nat) (o:List Nat) (bw:Nat)=>i<=x.length/\o.length=x.length/\B9 o/\bw<=1/\o.drop i=x.drop i/\val (o.take i)+val (y.take i)=val (x.take i)+4294967296^i*bw) (λ i o bw=>[(7,.int .i64 i),(6,.int .u64 (bw:Int))]) (λ i o bw=>[(101021,101021,.rw 1 (o.map BF))]) 0 x 0 ⟨by omega,rfl,hX,by omega,rfl,by simp [val]⟩ ?_;intro i o bw ⟨p1,p2,p3,p4,p5,p6⟩ ih;by_cases hi:i<x.length
 ·obtain ⟨d,hd⟩ : ∃ d,o[i]? = some d:=⟨_,zE (by omega)⟩
  have br:=p3.at hd;have hxi:x[i]? = some d:=by
   have e1:(o.drop i)[0]? = (x.drop i)[0]? := by rw[p5]
   simpa [hd] using e1.symm
  have g1:=H5 hxi;have g2:=Qu (y:=y) i;have ge:=Z4 hY i;have j8 : ∀ have' take w dn,take=bw+y.getD i 0->((have'=d/\dn=0/\take<=d)\/(have'=d+4294967296/\dn=1/\d<take))->w+take=have'->val ((o.set i w).take (i+1))+val (y.take (i+1))=val (x.take (i+1))+4294967296^(i+1)*dn:=λ have' take w dn a1 a2 a3=>by
   rw[KY (by omega),g1,g2,Nat.pow_succ];exact Aqc p6 a1 a2 a3
  have ub : ∀ w,(o.set i w).drop (i+1)=x.drop (i+1):=λ w=>by
   rw[List.drop_set_of_lt (by omega)];have e1:(o.drop i).drop 1=(x.drop i).drop 1:=by rw[p5]
   simpa using e1
  by_cases hy:i<y.length
  ·obtain ⟨e,he⟩ : ∃ e,y[i]? = some e:=⟨_,zE hy⟩
   have Tx:=hY.at he;rw[LY he]at j8;by_cases l7:d<bw+e
   ·have h3:=j8 (d+4294967296) (bw+e) (d+4294967296-(bw+e)) 1 (by omega) (Or.inr ⟨rfl,rfl,l7⟩) (by omega)
    (repeat' ((first|(apply A9<;>intro hc<;>try omega)|(apply B5;omega)|(apply K0;omega)|(apply OM;omega;omega)|(apply mQ;omega)|(apply EM;omega)|(apply II;omega)|apply BT|(refine CN (by assumption) ?_ rfl ?_;omega)|refine O3 (by assumption) ?_|apply A2)<;>conv=>whnf))
    refine JW (by omega) ?_;(conv=>whnf)
    (repeat' ((first|(apply BG;omega)|fail)<;>conv=>whnf))
    exact DP [] (by (conv=>whnf);exact ⟨rfl,rfl,rfl⟩) (ih (i+1) (o.set i (d+4294967296-(bw+e))) 1 (by omega) ⟨by omega,by simpa using p2,p3.set _ (by omega),by omega,ub _,h3⟩)
   ·have h3:=j8 d (bw+e) (d-(bw+e)) 0 (by omega) (Or.inl ⟨rfl,rfl,by omega⟩) (by omega)
    (repeat' ((first|(apply A9<;>intro hc<;>try omega)|(apply B5;omega)|(apply K0;omega)|(apply OM;omega;omega)|(apply EM;omega)|(apply II;omega)|apply BT|(refine CN (by assumption) ?_ rfl ?_;omega)|refine O3 (by assumption) ?_|apply A2)<;>conv=>whnf))
    refine JW (by omega) ?_;(conv=>whnf)
    (repeat' ((first|(apply BG;omega)|fail)<;>conv=>whnf))
    exact DP [] (by (conv=>whnf);exact ⟨rfl,rfl,rfl⟩) (ih (i+1) (o.set i (d-(bw+e))) 0 (by omega) ⟨by omega,by simpa using p2,p3.set _ (by omega),by omega,ub _,h3⟩)
  ·rw[<-Z5 (show y.length<=i by omega)]at j8
   by_cases l7:d<bw
   ·have h3:=j8 (d+4294967296) (bw) (d+4294967296-(bw)) 1 (by omega) (Or.inr ⟨rfl,rfl,l7⟩) (by omega)
    (repeat' ((first|(apply A9<;>intro hc<;>try omega)|(apply B5;omega)|(apply OM;omega;omega)|(apply mQ;omega)|(apply EM;omega)|(apply II;omega)|apply BT|refine O3 (by assumption) ?_|apply A2)<;>conv=>whnf))
    refine JW (by omega) ?_;(conv=>whnf)
    (repeat' ((first|(apply BG;omega)|fail)<;>conv=>whnf))
    exact DP [] (by (conv=>whnf);exact ⟨rfl,rfl,rfl⟩) (ih (i+1) (o.set i (d+4294967296-(bw))) 1 (by omega) ⟨by omega,by simpa using p2,p3.set _ (by omega),by omega,ub _,h3⟩)
   ·have h3:=j8 d (bw) (d-(bw)) 0 (by omega) (Or.inl ⟨rfl,rfl,by omega⟩) (by omega)
    (repeat' ((first|(apply A9<;>intro hc<;>try omega)|(apply B5;omega)|(apply OM;omega;omega)|(apply EM;omega)|(apply II;omega)|apply BT|refine O3 (by assumption) ?_|apply A2)<;>conv=>whnf))
    refine JW (by omega) ?_;(conv=>whnf)
    (repeat' ((first|(apply BG;omega)|fail)<;>conv=>whnf))
    exact DP [] (by (conv=>whnf);exact ⟨rfl,rfl,rfl⟩) (ih (i+1) (o.set i (d-(bw))) 0 (by omega) ⟨by omega,by simpa using p2,p3.set _ (by omega),by omega,ub _,h3⟩)
 ·obtain rfl:i=x.length:=by omega
  clear ih;rw[GV (by omega),GV (Nat.le_refl _)]at p6;have h1:=JM p3;rw[p2]at h1;have h2:val (y.take x.length)<=val y:=by have:=dG y x.length;omega
  have jx:bw=0:=by
   rcases Nat.eq_zero_or_pos bw with h|h
   ·exact h
   ·have:bw=1:=by omega
    subst this;omega
  subst jx;have hve:val (y.take x.length)=val y:=by
   have h3:=dG y x.length;rcases Nat.eq_zero_or_pos (val (y.drop x.length)) with h|h
   ·rw[h]at h3;omega
   ·have h4:4294967296^x.length*1<=4294967296^x.length*val (y.drop x.length):=Nat.mul_le_mul_left _ h
    have h5:=JM hX;omega
  have hv:val o=val x-val y:=by omega
  have hT:=λ q=>K3 N o q p3 (by omega)
  rw[<-hv,<-p2];(repeat' ((first|(apply A9<;>intro hc<;>try omega)|(refine FO (λ_=>rfl) rfl ?_ ?_;(first|rfl|simp))|apply A2|refine AP (hT _) ?_)<;>conv=>whnf))
  exact BV rfl (O4 _)
theorem vE (N:a6 L) (a b:List Nat) (q1 q2:Bool) (hA:B9 a) (hB:B9 b) (la:a.length<=549755813888) (lb:b.length<=549755813888):Ev L 104 [.sl q1 (a.map BF),.sl q2 (b.map BF)] (.sl false ((dg (val a-val b)).map BF)):=by
 have n0:=λ q q'=>vD N a b q q' hA hB (by omega) (by omega)
 have t2:=λ q=>K3 N b q hB (by omega)
 refine Ev.x N.OW rfl rfl ?_;by_cases l7:val a<val b
 ·rw[<-NT (by omega)]at n0
  rw[show val a-val b=0 by omega,JL];(repeat' ((first|(apply A9<;>intro hc<;>try omega)|apply A2|refine AP (n0 _ _) ?_)<;>conv=>whnf))
  exact BV rfl (O4 [])
 ·have ud:=nS (show val b<=val a by omega)
  generalize GS (val a) (val b)=cm at *;have d2:=HW (val b);have v2:=EA (val b);have l2:=JB hB;rw[<-v2];rw[<-v2]at l7;generalize dg (val b)=y at *;have hdg : ∀ n,a.take n=dg (val a)->val (a.take n)=val a:=λ n h=>by rw[h,EA]
  (repeat' ((first|(apply A9<;>intro hc<;>try omega)|apply A2|refine AP (n0 _ _) ?_|refine AP (t2 _) ?_)<;>conv=>whnf))
  refine LE 1000 N.M3 rfl rfl ?_;(repeat' ((first|apply BT|apply A2)<;>conv=>whnf))
  refine G5 (λ n=>n) (λ(n:Nat)=>n<=a.length /\ ∀ i,n<=i->i<a.length->a[i]? = some 0) (λ n=>[(3,.int .i64 n)]) (λ_=>[]) a.length ⟨Nat.le_refl _,λ i h1 h2=>by omega⟩ ?_;intro n ⟨p1,p2⟩ ih;rcases n with _|n
  ·have hv:=hdg _ (LH hA p1 p2 (Or.inl rfl))
   clear ih;(repeat' ((first|(apply A9<;>intro hc<;>try omega)|apply A2)<;>conv=>whnf))
   refine QE (k:=0) (λ_=>rfl) (by omega) ?_;(conv=>whnf)
   refine ZB (enc:=BF) (λ_=>rfl) (by rw[List.length_take];omega) (by rw[List.length_take];omega) ?_;(conv=>whnf)
   refine ⟨rfl,_,rfl,?_⟩;(conv=>whnf)
   skip
   rw[<-hv];exact DP [] (by (conv=>whnf);exact ⟨rfl,rfl,rfl⟩) (Afp N (a.take 0) y (hA.take _) d2 (by simp) (by omega) (by omega))
  ·have e1:((n+1:Nat):Int)-1=n:=by omega
   (repeat' ((first|(apply A9<;>intro hc<;>try omega)|(apply DQ;omega)|(refine ZJ (by assumption) ?_ (λ e he hb => ?_);omega)|apply A2)<;>conv=>whnf))
   ·rw[e1]
    exact CZ [] (ih n (by omega) ⟨by omega,λ i h1 h2=>by
     by_cases h:i=n
     ·subst h
      rw[e1,Int.toNat_natCast]at he;rw[he];congr 1;omega
     ·exact p2 i (by omega) h2⟩)
   ·rw[e1,Int.toNat_natCast]at he
    have hv:=hdg _ (LH hA p1 p2 (Or.inr ⟨_,he,by omega⟩));clear ih;refine QE (k:=n+1) (λ_=>rfl) (by omega) ?_;(conv=>whnf)
    refine ZB (enc:=BF) (λ_=>rfl) (by rw[List.length_take];omega) (by rw[List.length_take];omega) ?_;(conv=>whnf)
    refine ⟨rfl,_,rfl,?_⟩;(conv=>whnf)
    skip
    rw[<-hv];exact DP [] (by (conv=>whnf);exact ⟨rfl,rfl,rfl⟩) (Afp N (a.take (n+1)) y (hA.take _) d2 (by rw[List.length_take];omega) (by omega) (by omega))
theorem Amz (N:a6 L) (x y:List Nat) (q1 q2:Bool) (hA:B9 x) (hB:B9 y) (lab:x.length+y.length<=549755813888):Ev L 105 [.sl q1 (x.map BF),.sl q2 (y.map BF)] (.sl false ((dg (val x*val y)).map BF)):=by
 refine Ev.x N.UK rfl rfl ?_;(repeat' ((first|(apply BG;omega)|apply BT|apply A2)<;>conv=>whnf))
 refine GJ (enc:=BF) 0 (x.length+y.length+1) rfl (by omega) (by omega) ?_;(conv=>whnf)
 skip
 refine IX (λ i _=>x.length-i) (λ(i:Nat) (o:List Nat)=>i<=x.length/\o.length=x.length+y.length+1/\B9 o/\val o=val (x.take i)*val y /\ ∀ k,i+y.length<=k->k<o.length->o[k]? = some 0) (λ i o=>[(6,.int .i64 i)]) (λ i o=>[(15,15,.rw 1 (o.map BF))]) 0 (List.replicate (x.length+y.length+1) 0) ⟨by omega,by simp,OS _,by simp [val,rU],λ k h1 h2=>by simp at h2;simp [h2]⟩ ?_;intro i O ⟨p1,p2,p3,p4,p5⟩ ih;by_cases hi:i<x.length
 ·obtain ⟨d,hd⟩ : ∃ d,x[i]? = some d:=⟨_,zE hi⟩
  have br:=hA.at hd;(repeat' ((first|(apply A9<;>intro hc<;>try omega)|apply BT|apply A2)<;>conv=>whnf))
  refine LD (λ j _ _=>y.length-j) (λ(j:Nat) (o:List Nat) (c:Nat)=>j<=y.length/\o.length=x.length+y.length+1/\B9 o/\c<4294967296/\val o+4294967296^(i+j)*c=val O+4294967296^i*(d*val (y.take j)) /\ ∀ k,i+j<=k->o[k]? = O[k]?) (λ j o c=>[(7,.int .u64 (c:Int)),(8,.int .i64 j)]) (λ j o c=>[(15,15,.rw 1 (o.map BF))]) 0 O 0 ⟨by omega,p2,p3,by omega,by simp [val],λ_ _=>rfl⟩ ?_;intro j o c ⟨r1,r2,r3,r4,r5,r6⟩ jh;have e1:((i:Int)+j).toNat=i+j:=by omega
  by_cases hj:j<y.length
  ·obtain ⟨w,hw⟩ : ∃ w,y[j]? = some w:=⟨_,zE hj⟩
   have Wz:=hB.at hw;have hm:=gA br Wz;(repeat' ((first|(apply A9<;>intro hc<;>try omega)|(apply B5;omega)|(apply BG;omega)|(apply K0;omega)|(apply X6;omega)|(apply EM;omega)|apply KQ|apply BT|(refine CN (by assumption) ?_ rfl ?_;omega)|(refine Ym (by assumption) ?_ (λ v hv hb => ?_);omega)|apply A2)<;>conv=>whnf))
   refine nD (i+j) (by omega) (by omega) ?_;(conv=>whnf)
   (repeat' ((first|(apply BG;omega)|apply J2)<;>conv=>whnf))
   refine DP [] (by (conv=>whnf);exact ⟨rfl,rfl,rfl⟩) (jh (j+1) _ _ (by omega) ⟨by omega,by simpa using r2,r3.set _ (by omega),by omega,?_,?_⟩)
   ·have h1:=rR (v:=(c+(d*w+v))%4294967296) hv
    have h2:=YD 0 (4294967296^(i+j)) (c+(d*w+v));rw[H5 hw,show i+(j+1)=i+j+1 by omega,Nat.pow_succ (4294967296) (i+j)];have h3:4294967296^i*(d*(val (y.take j)+4294967296^j*w))=4294967296^i*(d*val (y.take j))+4294967296^(i+j)*(d*w):=by rw[Nat.pow_add];grind
    rw[h3];generalize 4294967296^(i+j)=P at *;rw[Nat.mul_add P c,Nat.mul_add P]at h2;omega
   ·intro k hk
    rw[List.getElem?_set_ne (by omega)];exact r6 k (by omega)
  ·obtain rfl:j=y.length:=by omega
   clear jh;have hz:=r6 (i+y.length) (by omega);rw[p5 (i+y.length) (by omega) (by omega)]at hz;(repeat' ((first|(apply A9<;>intro hc<;>try omega)|(apply B5;omega)|(apply BG;omega)|(apply II;omega)|apply BT|apply A2)<;>conv=>whnf))
   refine nD (i+y.length) (by omega) (by omega) ?_;(conv=>whnf)
   (repeat' ((first|(apply BG;omega)|fail)<;>conv=>whnf))
   refine DP [] (by (conv=>whnf);exact ⟨rfl,rfl,rfl⟩) (ih (i+1) _ (by omega) ⟨by omega,by simpa using r2,r3.set _ (by omega),?_,?_⟩)
   ·have h1:=rR (v:=c) hz
    rw[Nat.mul_zero,Nat.add_zero]at h1;rw[h1,r5,p4,GV (Nat.le_refl _),H5 hd,Nat.add_mul,Nat.mul_assoc]
   ·intro k h1 h2
    rw[List.length_set]at h2;rw[List.getElem?_set_ne (by omega),r6 k (by omega)];exact p5 k (by omega) (by omega)
 ·obtain rfl:i=x.length:=by omega
  clear ih;rw[GV (Nat.le_refl _)]at p4;have hT:=λ q=>K3 N O q p3 (by omega)
  rw[p4]at hT;rw[<-p2];(repeat' ((first|(apply A9<;>intro hc<;>try omega)|apply BT|(refine FO (λ_=>rfl) rfl ?_ ?_;(first|rfl|simp))|apply A2|refine AP (hT _) ?_)<;>conv=>whnf))
  exact BV rfl (O4 _)
end Go.b8
