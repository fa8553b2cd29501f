/-
  One digit of a long division, plain: the product taken away, a part of it given back; a window of a row.
-/
import Derived.Test.YtcoldcgafbbjoaaGreatB2
import Derived.Test.YtcoldcgafbbjoaaGreatB7
set_option linter.unusedSimpArgs false
set_option linter.unusedVariables false
set_option linter.unnecessarySimpa false
namespace Go.g6
theorem wJ {A w C:List Nat} {i n:Nat} (hi:i=A.length+n) (hn:n<w.length):(A++w++C)[i]? = w[n]? := by
 subst hi;rw[List.append_assoc,List.getElem?_append_right (by omega),Nat.add_sub_cancel_left,List.getElem?_append_left hn]
theorem AhF {A w C:List Nat} {i n v:Nat} (hi:i=A.length+n) (hn:n<w.length):(A++w++C).set i v=A++w.set n v++C:=by
 subst hi;rw[List.append_assoc,List.set_append_right _ _ (by omega),Nat.add_sub_cancel_left,List.set_append_left _ _ hn,List.append_assoc]
theorem NZ {A w C:List Nat} {i v:Nat} {KK:List (List AV)->Prop} (n:Nat) (hi:i=A.length+n) (hn:n<w.length) (h:KK ((A++w.set n v++C).map AL)):BG ((A++w++C).map AL) i 0 [.int .u32 (v:Int)] KK:=by
 have hl:i<(A++w++C).length:=by simp;omega
 refine kC (enc:=AL) i v rfl rfl (λ_=>rfl) hl ?_;rw[AhF hi hn];exact h
theorem Ae1 {W X Vi p q u d c b pr t:Nat} (h:W+q*Vi=X+p*(c+b)) (vd:pr=q*d+c) (ht:t=EP (EP u (pr%4294967296)) b) (hu:u<4294967296) (hb:b<=1) :
  W+p*(t%4294967296)+q*(Vi+p*d)=X+p*u+p*4294967296*(pr/4294967296+t/9223372036854775808):=by
 obtain ⟨h1,_⟩:=Z7 hu (show pr%4294967296<4294967296 by omega) hb;rw[<-ht]at h1;have h2:=Nat.mod_add_div pr 4294967296;generalize t%4294967296=w at *;generalize t/9223372036854775808=b' at *;generalize pr%4294967296=pl at *;generalize pr/4294967296=ph at *;have e1:p*(w+pl+b)=p*(u+4294967296*b'):=by rw[h1]
 have e2:p*(pl+4294967296*ph)=p*(q*d+c):=by rw[h2,vd]
 grind
theorem rS {q d c pr:Nat} (hq:q<4294967296) (hd:d<4294967296) (hc:c<4294967296) (vd:pr=q*d+c):pr/4294967296<4294967296/\pr<=18446744073709551615/\q*d<=18446744065119617025:=by
 have:=TK hq hd
 omega
theorem AeZ {W X V p q u c b t:Nat} (h:W+q*V=X+p*(c+b)) (ht:t=EP (EP u c) b) (hu:u<4294967296) (hc:c<4294967296) (hb:b<=1) :
  W+p*(t%4294967296)+q*V=X+p*u+p*4294967296*(t/9223372036854775808):=by
 obtain ⟨h1,_⟩:=Z7 hu hc hb;rw[<-ht]at h1;generalize t%4294967296=w at *;generalize t/9223372036854775808=b' at *;have e1:p*(w+c+b)=p*(u+4294967296*b'):=by rw[h1]
 grind
theorem Ae2 {W X Vi p q u d c b pr w take have' du:Nat} (h:W+q*Vi=X+p*(c+b)) (vd:pr=c+q*d) (h1:take=pr%4294967296+b) (h2:(have'=u/\du=0/\take<=u)\/(have'=u+4294967296/\du=1/\u<take)) (h3:w+take=have') :
  W+p*w+q*(Vi+p*d)=X+p*u+p*4294967296*(pr/4294967296+du):=by
 have h4:=Nat.mod_add_div pr 4294967296;have h5:w+pr%4294967296+b=u+4294967296*du:=by omega
 generalize pr%4294967296=pl at *;generalize pr/4294967296=ph at *;have e1:p*(w+pl+b)=p*(u+4294967296*du):=by rw[h5]
 have e2:p*(pl+4294967296*ph)=p*(c+q*d):=by rw[h4,vd]
 grind
theorem Ae0 {W X V p q u c b w take have' du:Nat} (h:W+q*V=X+p*(c+b)) (h1:take=c+b) (h2:(have'=u/\du=0/\take<=u)\/(have'=u+4294967296/\du=1/\u<take)) (h3:w+take=have') :
  W+p*w+q*V=X+p*u+p*4294967296*du:=by
 have h5:w+c+b=u+4294967296*du:=by omega
 have e1:p*(w+c+b)=p*(u+4294967296*du):=by rw[h5]
 grind
theorem kG {W X Vi p w d c t:Nat} (h:W+p*c=X+Vi) (ht:t=w+d+c):W+p*(t%4294967296)+p*4294967296*(t/4294967296)=X+p*w+(Vi+p*d):=by
 have h1:=OR W p t;have e:p*t=p*w+p*d+p*c:=by rw[ht];grind
 omega
theorem kF {W X V R p w c:Nat} (h:W+p*c=X+V) (hX:X+p*w+V=R+p*4294967296) (hR:R<p*4294967296) (hW:W<p):W+p*((w+c)%4294967296)=R:=by
 have h1:W+p*(w+c)=R+p*4294967296:=by
  rw[Nat.mul_add];omega
 have h2:=Nat.mod_add_div (w+c) 4294967296;have h3:p*(w+c)=p*((w+c)%4294967296)+p*4294967296*((w+c)/4294967296):=by
  rw[Nat.mul_assoc,<-Nat.mul_add,h2]
 have h4:(w+c)%4294967296<4294967296:=Nat.mod_lt _ (by omega);generalize (w+c)%4294967296=m at *;generalize (w+c)/4294967296=k at *;have h5:W+p*m<p*4294967296:=by
  have:p*m+p<=p*4294967296:=by rw[<-Nat.mul_succ];exact Nat.mul_le_mul_left p (by omega)
  omega
 have h6:k=1:=by
  rcases Nat.lt_trichotomy k 1 with hk|hk|hk
  ·have:k=0:=by omega
   subst this;omega
  ·exact hk
  ·have:p*4294967296*2<=p*4294967296*k:=Nat.mul_le_mul_left _ (by omega)
   omega
 subst h6;omega
theorem Ahx {U V UL VL p u2 v2 v1 top:Nat} (hU:U=UL+p*(u2+4294967296*top)) (hV:V=VL+p*(v2+4294967296*v1)) (Cb:VL<p) (h2:v2<4294967296) (h:U<4294967296*V):top<4294967296*(v1+1):=by
 have h3:V<p*(4294967296*(v1+1)):=by
  have:p*(v2+4294967296*v1)+p<=p*(4294967296*(v1+1)):=by
   rw[<-Nat.mul_succ];exact Nat.mul_le_mul_left p (by omega)
  omega
 have h4:p*(4294967296*top)<=U:=by
  have:p*(4294967296*top)<=p*(u2+4294967296*top):=Nat.mul_le_mul_left p (by omega)
  omega
 have h5:p*(4294967296*top)<p*(4294967296*(4294967296*(v1+1))):=by
  have:p*(4294967296*(4294967296*(v1+1)))=4294967296*(p*(4294967296*(v1+1))):=by grind
  omega
 have:=Nat.lt_of_mul_lt_mul_left h5
 omega
structure Gs (U V v1 v2 u2 top q r:Nat):Prop where
 hq:q*v1+r=top
 hr:r<4294967296
 ge:U/V<=q
theorem Gs.next {U V UL VL p v1 v2 u2 top q r:Nat} (g:Gs U V v1 v2 u2 top q r) (hU:U=UL+p*(u2+4294967296*top)) (hV:V=VL+p*(v2+4294967296*v1)) (yi:UL<p) (bu:0<V) (Ih:U<4294967296*V)
  (h:4294967296<=q\/r*4294967296+u2<q*v2):1<=q/\(q-1)*v1+(r+v1)=top/\U/V<=q-1:=by
 have h1:U/V<q:=by
  rcases h with h|h
  ·exact Zv Ih h bu
  ·exact Zw hU hV yi g.hq h bu
 have hq:=g.hq;clear h g hU hV Ih;generalize U/V=Q at *;obtain ⟨k,rfl⟩ : ∃ k,q=k+1:=⟨q-1,by omega⟩;refine ⟨by omega,?_,by omega⟩;rw[Nat.add_sub_cancel,<-hq,Nat.add_mul];omega
theorem Gs.start {U V UL VL p v1 v2 u2 top:Nat} (hU:U=UL+p*(u2+4294967296*top)) (hV:V=VL+p*(v2+4294967296*v1)) (yi:UL<p) (h2:u2<4294967296) (bu:0<V) (h1:0<v1) (h1b:v1<4294967296):Gs U V v1 v2 u2 top (top/v1) (top%v1):=by
 refine ⟨by rw[Nat.mul_comm];exact Nat.div_add_mod _ _,?_,?_⟩
 ·have:=Nat.mod_lt top h1
  omega
 ·rw[Nat.le_div_iff_mul_le h1]
  exact Zx hU hV yi h2 bu
theorem TC {U V UL VL p v1 v2 u2 top q r:Nat} (hU:U=UL+p*(u2+4294967296*top)) (hV:V=VL+p*(v2+4294967296*v1)) (Cb:VL<p) (Je:2147483648<=v1) (Jf:v2<4294967296) (Ih:U<4294967296*V) (hq:q*v1+r=top)
  (h:(q<4294967296/\q*v2<=r*4294967296+u2)\/4294967296<=r):q<4294967296/\q<=U/V+1:=by
 rcases h with ⟨h1,h2⟩|h
 ·exact ⟨h1,pQ hU hV Cb Je hq h2 h1⟩
 ·have ht:=Ahx hU hV Cb Jf Ih
  have xg:q<4294967296:=by
   have h3:q*v1<4294967296*v1:=by omega
   exact Nat.lt_of_mul_lt_mul_right h3
  refine ⟨xg,pQ hU hV Cb Je hq ?_ xg⟩;have:=TK xg Jf
  omega
theorem SE (a:List Nat) (k:Nat):val a=val (a.take k)+4294967296^k*val (a.drop k):=by
 rcases Nat.lt_or_ge a.length k with h|h
 ·rw[zT (by omega),List.drop_of_length_le (by omega),IZ];omega
 ·exact J9 a k h
theorem SD (a:List Nat) (k:Nat):val (a.drop k)=a.getD k 0+4294967296*val (a.drop (k+1)):=by
 rcases Nat.lt_or_ge k a.length with h|h
 ·rw[G8 (zE h),List.getD_eq_getElem?_getD,zE h];rfl
 ·rw[List.drop_of_length_le h,List.drop_of_length_le (by omega),List.getD_eq_getElem?_getD,List.getElem?_eq_none h];rfl
theorem PX {a:List Nat} (h:A1 a) (k:Nat):a.getD k 0<4294967296:=by
 rw[List.getD_eq_getElem?_getD];cases e:a[k]? with
 | none=>simp
 | some d=>simpa using h.at e
theorem getD_some {a:List Nat} {k d:Nat} (h:a[k]? = some d):d=a.getD k 0:=by rw[List.getD_eq_getElem?_getD,h];rfl
theorem getD_none {a:List Nat} {k:Nat} (h:a.length<=k):0=a.getD k 0:=by rw[List.getD_eq_getElem?_getD,List.getElem?_eq_none h];rfl
theorem aJ {a:List Nat} (hD:A1 a) {n:Nat} (hn:3<=n) (hl:a.length<=n) : ∃ r,r<4294967296^(n-3)/\val a=r+4294967296^(n-3)*(a.getD (n-3) 0+4294967296*(a.getD (n-2) 0+4294967296*a.getD (n-1) 0)):=by
 refine ⟨val (a.take (n-3)),?_,?_⟩
 ·refine Nat.lt_of_lt_of_le (E5 (hD.take _)) (Nat.pow_le_pow_right (by omega) ?_)
  rw[List.length_take];omega
 ·have h1:=SE a (n-3)
  have h2:=SD a (n-3);have h3:=SD a (n-3+1);have h4:=SD a (n-3+1+1);rw[List.drop_of_length_le (show a.length<=n-3+1+1+1 by omega),IZ]at h4;rw[show n-3+1=n-2 by omega]at *;rw[show n-2+1=n-1 by omega]at *;rw[h4,Nat.mul_zero,Nat.add_zero]at h3;rw[h3]at h2;rw[h2]at h1;exact h1
theorem wG {a:List Nat} (hD:A1 a) {n:Nat} (hn:2<=n) (hl:a.length<=n) : ∃ r,r<4294967296^(n-2)/\val a=r+4294967296^(n-2)*(a.getD (n-2) 0+4294967296*a.getD (n-1) 0):=by
 refine ⟨val (a.take (n-2)),?_,?_⟩
 ·refine Nat.lt_of_lt_of_le (E5 (hD.take _)) (Nat.pow_le_pow_right (by omega) ?_)
  rw[List.length_take];omega
 ·have h1:=SE a (n-2)
  have h2:=SD a (n-2);have h3:=SD a (n-2+1);rw[List.drop_of_length_le (show a.length<=n-2+1+1 by omega),IZ]at h3;rw[show n-2+1=n-1 by omega]at *;rw[h3,Nat.mul_zero,Nat.add_zero]at h2;rw[h2]at h1;exact h1
theorem PO {a b:Nat} (h:a<=b):(dg a).length<=(dg b).length:=by
 rcases Nat.lt_or_ge (dg b).length (dg a).length with h1|h1
 ·have:=T5 h1;omega
 ·exact h1
theorem cD {p:Nat} (h:p<18446744073709551616):val [p%4294967296,p/4294967296]=p/\A1 [p%4294967296,p/4294967296]:=by
 refine ⟨by simp [val];omega,λ x hx => ?_⟩;simp at hx;omega
theorem GP {a:List Nat} {k d:Nat} (h:a[k]? = some d):a.getD k 0=d:=(getD_some h).symm
theorem eI {y:List Nat} {s yt:Nat} (hD:A1 y) (zx:y[y.length-1]? = some yt) (hl:1<=y.length) (hs:s<=31) (b3:2147483648<=yt*2^s) (b4:yt*2^s<4294967296):val y*2^s<4294967296^y.length/\4294967296^(y.length-1)*2147483648<=val y*2^s:=by
 have h1:=J9 y (y.length-1) (by omega);have h2:=G8 zx;rw[List.drop_of_length_le (show y.length<=y.length-1+1 by omega),IZ,Nat.mul_zero,Nat.add_zero]at h2;rw[h2]at h1;have h3:=E5 (hD.take (y.length-1));rw[List.length_take,Nat.min_eq_left (by omega)]at h3;have e:4294967296^y.length=4294967296^(y.length-1)*4294967296:=by rw[<-Nat.pow_succ,Nat.succ_eq_add_one,show y.length-1+1=y.length by omega]
 rw[e];generalize 4294967296^(y.length-1)=p at *;have hk:(yt+1)*2^s<=4294967296:=by
  have e2:4294967296=2^s*2^(32-s):=by rw[<-Nat.pow_add,show s+(32-s)=32 by omega]
  rw[e2,Nat.mul_comm]at b4;have:=Nat.lt_of_mul_lt_mul_left b4
  rw[e2,Nat.mul_comm];exact Nat.mul_le_mul_left _ this
 have h4:val y+1<=p*(yt+1):=by rw[Nat.mul_add];omega
 have h5:=zR (2^s) h4;have h6:p*((yt+1)*2^s)<=p*4294967296:=Nat.mul_le_mul_left p hk;rw[<-Nat.mul_assoc]at h6;have h7:p*2147483648<=p*(yt*2^s):=Nat.mul_le_mul_left p b3;have h8:p*(yt*2^s)<=val y*2^s:=by rw[<-Nat.mul_assoc];exact zR _ (by omega)
 have h9:=Nat.two_pow_pos s;rw[Nat.add_mul]at h5;exact ⟨by omega,by omega⟩
theorem vX {v:List Nat} {k c d:Nat} (hD:A1 v) (hl:v.length=k+1) (h:4294967296^k*c<=val v) (hd:v[k]? = some d):c<=d:=by
 have h1:=J9 v k (by omega);have h2:=G8 hd;rw[List.drop_of_length_le (show v.length<=k+1 by omega),IZ,Nat.mul_zero,Nat.add_zero]at h2;rw[h2]at h1;have h3:=E5 (hD.take k);rw[List.length_take,Nat.min_eq_left (by omega)]at h3;generalize 4294967296^k=p at *;have h4:p*c<p*(d+1):=by rw[Nat.mul_add];omega
 have:=Nat.lt_of_mul_lt_mul_left h4
 omega
theorem nD (o:List Nat) (j n:Nat) (h:j+n<=o.length) : ∃ A W C,A.length=j/\W.length=n/\o=A++W++C:=by
 refine ⟨o.take j,(o.drop j).take n,(o.drop j).drop n,by simp;omega,by simp;omega,?_⟩;rw[List.append_assoc,List.take_append_drop,List.take_append_drop]
theorem mD {A W C:List Nat} (h:A1 (A++W++C)):A1 A/\A1 W/\A1 C:=by
 refine ⟨λ x hx=>h x (by simp [hx]),λ x hx=>h x (by simp [hx]),λ x hx=>h x (by simp [hx])⟩
theorem nF {A W C:List Nat} {j l V:Nat} (hA:A.length=j) (hW:W.length=l+1) (hD:A1 (A++W++C)) (h:val ((A++W++C).drop (j+1))<V) (hV:V<4294967296^l) :
  val C=0/\val W<4294967296*V/\val ((A++W++C).take (j+1))+4294967296^(j+1)*val ((A++W++C).drop (j+1))=val A+4294967296^j*val W:=by
 have h1:=SE (A++W++C) (j+1);have h2:val (A++W++C)=val A+4294967296^j*(val W+4294967296^(l+1)*val C):=by
  rw[List.append_assoc,T4,T4,hA,hW]
 have h3:=SD (A++W++C) j;have h4:(A++W++C).drop j=W++C:=by
  rw[List.append_assoc,List.drop_append_of_le_length (by omega),List.drop_of_length_le (by omega)];rfl
 have h5:=PX hD j;rw[h4,T4,hW]at h3;rw[Nat.pow_succ]at h3;have h6:val C=0:=by
  rcases Nat.eq_zero_or_pos (val C) with h0|h0
  ·exact h0
  ·have:4294967296^l*4294967296*1<=4294967296^l*4294967296*val C:=Nat.mul_le_mul_left _ h0
   omega
 rw[h6,Nat.mul_zero,Nat.add_zero]at h3;refine ⟨h6,by omega,?_⟩;rw[<-h1,h2,h6,Nat.mul_zero,Nat.add_zero]
theorem cO {A W C:List Nat} {j:Nat} (hA:A.length=j) (hC:val C=0):val ((A++W++C).drop j)=val W/\val ((A++W++C).take j)=val A:=by
 rw[List.append_assoc,List.drop_append_of_le_length (by omega),List.drop_of_length_le (by omega),List.take_append_of_le_length (by omega),zT (by omega),List.nil_append,T4,hC];simp
theorem nE {U VA P Q q V W R:Nat} (h:U=VA+P*W+P*4294967296*(Q*V)) (h2:W=q*V+R):U=VA+P*((q+4294967296*Q)*V+R):=by
 rw[h,h2];grind
section
variable {a b:Nat} {K:AV->Prop}
theorem jU (n:Nat) (hx:a%2^n=0) (hy:b<2^n) (h:a+b<=18446744073709551615) (hk:K (.int .u64 ((a+b:Nat):Int))):AD .or .u64 (a:Int) .u64 (b:Int) K :=
 aU n hx hy (show a+b<18446744073709551616 by omega) (IntWalk.u64_in _ (by omega)) hk
theorem W4 (n:Nat) (hx:b%2^n=0) (hy:a<2^n) (h:a+b<=18446744073709551615) (hk:K (.int .u64 ((a+b:Nat):Int))):AD .or .u64 (a:Int) .u64 (b:Int) K:=by
 have e:DN .or .u64 (a:Int) .u64 (b:Int)=DN .or .u64 (b:Int) .u64 (a:Int):=by
  simp only[DN,if_true,BitVec.or_comm]
 rw[Nat.add_comm]at hk h;have hh:=jU (K:=K) n hx hy h hk;unfold AD at hh ⊢;rw[e];exact hh
end
theorem W3 {a:Nat} {K:AV->Prop} (h:a<=18446744069414584319) (hk:K (.int .u64 ((a+4294967296:Nat):Int))):AD .add .u64 (a:Int) .u64 4294967296 K :=
 F5 (b:=4294967296) (by omega) hk
theorem JI {l:List Nat} {i e:Nat} {K:List AV->Prop} (he:l[i]? = some e) (h:K (AL e)):A9 (l.map AL) (0+((i:Int)).toNat) 0 1 K :=
 UD (e:=e) (by rw[Nat.zero_add,Int.toNat_natCast];exact he) rfl h
theorem yV {l:List Nat} {i:Int} {e:Nat} {K:List AV->Prop} (he:l[i.toNat]? = some e) (h:K (AL e)):A9 (l.map AL) (0+i.toNat) 0 1 K :=
 UD (e:=e) (by rw[Nat.zero_add];exact he) rfl h
theorem PG {A w C:List Nat} {i e:Nat} {K:List AV->Prop} (n:Nat) (he:w[n]? = some e) (hi:i=A.length+n) (h:K (AL e)):A9 ((A++w++C).map AL) i 0 1 K:=by
 have hn:=(zS he).1;exact UD (e:=e) (by rw[wJ hi hn];exact he) rfl h
end Go.g6
namespace Go.g6
def TF (n s:Nat):Nat:=4294967296^(n-3)*(2^(32-s)*4)
theorem AeK (n s:Nat):0<TF n s:=Nat.mul_pos (Nat.pow_pos (by omega)) (Nat.mul_pos (Nat.two_pow_pos _) (by omega))
theorem qP {a:List Nat} (hD:A1 a) {n s d1 d2 d3:Nat} (hn:3<=n) (hl:a.length<=n) (hs:s<=31) (h1:d1=a.getD (n-1) 0) (h2:d2=a.getD (n-2) 0) (h3:d3=a.getD (n-3) 0) :
  ((d1*4294967296+d2)*2^s+d3*2^s/4294967296)/4=val a/TF n s:=by
 obtain ⟨r,hr,hv⟩:=aJ hD hn hl;rw[<-h1,<-h2,<-h3]at hv;unfold TF;rw[hv,<-Nat.div_div_eq_div_mul,Nat.add_mul_div_left _ _ (Nat.pow_pos (by omega)),Nat.div_eq_of_lt hr,Nat.zero_add,<-Nat.div_div_eq_div_mul];congr 1;have e:d3+4294967296*(d2+4294967296*d1)=d3+2^(32-s)*(2^s*(d1*4294967296+d2)):=by
  rw[<-Nat.mul_assoc,<-Nat.pow_add,show 32-s+s=32 by omega];omega
 rw[e,Nat.add_mul_div_left _ _ (Nat.two_pow_pos _)];have:=uI (d:=d3) (s:=s) (by omega)
 rw[R5]at this;rw[this,Nat.mul_comm (2^s)];omega
theorem qQ {a:List Nat} (hD:A1 a) {n s d1 d2:Nat} (hn:3<=n) (hl:a.length<=n) (h1:d1=a.getD (n-1) 0) (h2:d2=a.getD (n-2) 0) (o7:val a*2^s<4294967296^n) :
  (d1*4294967296+d2)*2^s<=18446744073709551615:=by
 obtain ⟨r,hr,hv⟩:=aJ hD hn hl;rw[<-h1,<-h2]at hv;generalize a.getD (n-3) 0=d3 at *;have e:4294967296^n=4294967296^(n-3)*(4294967296*18446744073709551616):=by
  rw[show n=n-3+3 by omega,Nat.pow_add,show n-3+3-3=n-3 by omega]
 rw[e,hv]at o7;generalize 4294967296^(n-3)=p at *;have h3:p*(4294967296*((d1*4294967296+d2)*2^s))<p*(4294967296*18446744073709551616):=by
  refine Nat.lt_of_le_of_lt ?_ o7;rw[<-Nat.mul_assoc,<-Nat.mul_assoc];refine zR _ ?_;have h5:p*(4294967296*(d2+4294967296*d1))<=p*(d3+4294967296*(d2+4294967296*d1)):=Nat.mul_le_mul_left p (by omega);rw[Nat.mul_assoc,show d1*4294967296+d2=d2+4294967296*d1 by omega];omega
 have:=Nat.lt_of_mul_lt_mul_left (Nat.lt_of_mul_lt_mul_left h3)
 omega
theorem Y3 {k s:Nat} (hs:s<=64) (h:k*2^s<=18446744073709551615):k*2^s+2^s<=18446744073709551616:=by
 have e:18446744073709551616=2^(64-s)*2^s:=by rw[<-Nat.pow_add,show 64-s+s=64 by omega]
 have h1:k<2^(64-s):=by
  refine Nat.lt_of_mul_lt_mul_right (a:=2^s) ?_;rw[<-e];omega
 have h2:=zR (2^s) h1;rw[Nat.succ_mul,<-e]at h2;exact h2
theorem qR {a:List Nat} (hD:A1 a) {n s:Nat} (hn:3<=n) (hl:a.length<=n) (hs:s<=31) (o7:val a*2^s<4294967296^n):val a/TF n s<=4611686018427387904:=by
 rw[<-qP hD hn hl hs rfl rfl rfl];have h1:=qQ hD hn hl rfl rfl o7;have b3:=PX hD (n-3);have h2:=Y3 (show s<=64 by omega) h1;obtain ⟨_,h3,_,_⟩:=R6 (s:=s) b3 (by omega);rw[R5]at h3;generalize (a.getD (n-1) 0*4294967296+a.getD (n-2) 0)*2^s=T at *;generalize a.getD (n-3) 0*2^s=U at *;omega
theorem qS {V K:Nat} (hK:0<K) : ∃ e:Int,(V:Int)=(K:Int)*((V/K:Nat):Int)+e/\0<=e/\e<=K:=by
 refine ⟨((V%K:Nat):Int),?_,by omega,?_⟩
 ·have:=Nat.div_add_mod V K
  have h2:((K*(V/K)+V%K:Nat):Int)=(V:Int):=by rw[this]
  rw[<-h2];simp
 ·have:=Nat.mod_lt V hK
  omega
def UX (t:Int):Nat:=(t%4294967296).toNat
theorem lH (t:Int):UX t<4294967296:=by unfold UX;omega
theorem bX (t:Int):(UX t:Int)=t%4294967296:=by unfold UX;omega
def PF (f g:Int):Prop:=(0<=f/\f<=2147483647 /\ -2147483647<=g/\g<=0)\/(-2147483647<=f/\f<=0/\0<=g/\g<=2147483647)
theorem uF {f:Int} {d:Nat} (hd:d<4294967296):(0<=f->f<=2147483647->0<=f*d/\f*d<=9223372030412324865)/\(f<=0 -> -2147483647<=f->f*d<=0 /\ -9223372030412324865<=f*d):=by
 constructor
 ·intro h0 h1
  refine ⟨Int.mul_nonneg h0 (by omega),?_⟩;have:f*d<=2147483647*4294967295:=Int.mul_le_mul h1 (by omega) (by omega) (by omega)
  omega
 ·intro h0 h1
  have a1:0<=(-f)*d:=Int.mul_nonneg (by omega) (by omega);have a2:(-f)*d<=2147483647*4294967295:=Int.mul_le_mul (by omega) (by omega) (by omega) (by omega);rw[Int.neg_mul]at a1 a2;omega
theorem PF.Re {f g:Int} (h:PF f g) {d e:Nat} (hd:d<4294967296) (he:e<4294967296):(-9223372030412324865<=f*d/\f*d<=9223372030412324865)/\(-9223372030412324865<=g*e/\g*e<=9223372030412324865) /\ -9223372030412324865<=f*d+g*e/\f*d+g*e<=9223372030412324865:=by
 obtain ⟨a1,a2⟩:=uF (f:=f) hd;obtain ⟨b1,b2⟩:=uF (f:=g) he;rcases h with ⟨h1,h2,h3,h4⟩|⟨h1,h2,h3,h4⟩
 ·have:=a1 h1 h2;have:=b2 h4 h3;omega
 ·have:=a2 h2 h1;have:=b1 h3 h4;omega
theorem lI {V X Y p c f g d e t:Int} (h:V+p*c=f*X+g*Y) (ht:t=f*d+c+g*e):V+p*(t%4294967296)+p*4294967296*(t/4294967296)=f*(X+p*d)+g*(Y+p*e):=by
 have h1:=Int.emod_add_mul_ediv t 4294967296;have h2:p*(t%4294967296)+p*4294967296*(t/4294967296)=p*t:=by
  rw[Int.mul_assoc,<-Int.mul_add,h1]
 have h3:p*t=f*(p*d)+p*c+g*(p*e):=by rw[ht];grind
 have h4:f*(X+p*d)=f*X+f*(p*d):=by rw[Int.mul_add]
 have h5:g*(Y+p*e)=g*Y+g*(p*e):=by rw[Int.mul_add]
 omega
theorem Rs {V P:Nat} {c R:Int} (hV:V<P) (h:(V:Int)+P*c=R) (h0:0<=R) (h1:R<P):(V:Int)=R:=by
 have hc:c=0:=by
  rcases Int.lt_trichotomy c 0 with hc|hc|hc
  ·have:(P:Int)*c<=P*(-1):=Int.mul_le_mul_of_nonneg_left (by omega) (by omega)
   omega
  ·exact hc
  ·have:(P:Int)*1<=P*c:=Int.mul_le_mul_of_nonneg_left (by omega) (by omega)
   omega
 subst hc;omega
theorem VN (x y:Nat):Nat.gcd y (x%y)=Nat.gcd x y:=by
 rw[Nat.gcd_comm x y,Nat.gcd_rec y x];exact Nat.gcd_comm _ _
def zv (neg:Bool) (m:List Nat):Int:=bif neg then -(val m:Int) else (val m:Int)
abbrev rZ (q neg:Bool) (m:List Nat):List AV:=[.bool neg,.sl q (m.map AL)]
abbrev eZ (z:Int):List AV:=rZ false (decide (z<0)) (dg z.natAbs)
theorem FO (neg:Bool) (m:List Nat):(zv neg m).natAbs=val m:=by cases neg<;>simp [zv]
theorem GA (z:Int):zv (decide (z<0)) (dg z.natAbs)=z:=by
 unfold zv;rw[BW];by_cases h:z<0
 ·simp [h];omega
 ·simp [h];omega
def Sm (n:Nat) (m:List Nat):Prop:=A1 m/\m.length<=n
theorem Sm.dg {n V:Nat} (h:V<4294967296^n):Sm n (dg V):=⟨EA V,N6.2 h⟩
theorem Sm.le {n n':Nat} {m:List Nat} (h:Sm n m) (hn:n<=n'):Sm n' m:=⟨h.1,by have:=h.2;omega⟩
theorem Sm.val {n:Nat} {m:List Nat} (h:Sm n m):val m<4294967296^n:=Nat.lt_of_lt_of_le (E5 h.1) (Nat.pow_le_pow_right (by omega) h.2)
theorem Sm.Di {n:Nat} {m:List Nat} (h:Sm n m):Sm n (Go.g6.dg (Go.g6.val m)):=Sm.dg h.val
theorem ET {z:Int} {b:Bool} {n:Nat} (h1:n=z.natAbs) (h2:b=decide (z<0)):AV.agg [.bool b,.sl false ((dg n).map AL)] = .agg (eZ z):=by rw[h1,h2]
theorem DW (z:Int):A7 (.agg (eZ z)):=by
 simp only[A7,CJ,and_true,true_and];exact CS _
theorem NP {z:Int} (h:z<0):true=decide (z<0):=by simp [h]
theorem GI {z:Int} (h:0<=z):false=decide (z<0):=by simp;omega
theorem ZZ (n:Nat):Sm n []:=⟨S0,Nat.zero_le _⟩
theorem gX {n d:Nat} (hn:1<=n) (hd:d<4294967296):Sm n [d]:=⟨HD hd,hn⟩
theorem wN (b:Bool):zv b []=0:=by cases b<;>rfl
theorem Sm.low {n V:Nat} {m:List Nat} (h:Sm n m) (hV:V<=Go.g6.val m):Sm n (Go.g6.dg V):=Sm.dg (Nat.lt_of_le_of_lt hV h.val)
theorem Sm.mul {n k:Nat} {a b:List Nat} (ha:Sm n a) (hb:Sm k b) {V:Nat} (hV:V=Go.g6.val a*Go.g6.val b):Sm (n+k) (Go.g6.dg V):=by
 refine Sm.dg ?_;rw[hV,Nat.pow_add];exact Nat.mul_lt_mul_of_le_of_lt (Nat.le_of_lt ha.val) hb.val (Nat.pow_pos (by omega))
theorem Sm.add {n:Nat} {a b:List Nat} (ha:Sm n a) (hb:Sm n b) {V:Nat} (hV:V<=Go.g6.val a+Go.g6.val b):Sm (n+1) (Go.g6.dg V):=by
 refine Sm.dg ?_;have h1:=ha.val;have h2:=hb.val;rw[Nat.pow_succ];omega
theorem H5 (V:Nat):(dg V).length=0↔V=0:=by rw[List.length_eq_zero_iff,cE]
theorem E6 (m:List Nat):zv false m=(val m:Int):=rfl
theorem OI (m:List Nat):zv true m = -(val m:Int):=rfl
def fb (z:Int):Int:=if z<0 then -1 else if 0<z then 1 else 0
theorem uG {z:Int} (h:z<0) : -1=fb z:=by unfold fb;rw[if_pos h]
theorem uH {z:Int} (h:0<z):1=fb z:=by unfold fb;rw[if_neg (by omega),if_pos h]
theorem ZY {z:Int} (h:z=0):0=fb z:=by unfold fb;rw[if_neg (by omega),if_neg (by omega)]
theorem wH {n:Nat} (h:n<18446744073709551616):val [n%4294967296,n/4294967296]=n:=(by simp [val];omega)
abbrev rQ (q1 q2 n:Bool) (m d:List Nat):List AV:=[.bool n,.sl q1 (m.map AL),.sl q2 (d.map AL)]
abbrev eQ (x:Rat):List AV:=rQ false false (decide (x.num<0)) (dg x.num.natAbs) (dg x.den)
def qv (n:Bool) (m d:List Nat):Rat:=mkRat (zv n m) (val d)
theorem GT (x:Rat):qv (decide (x.num<0)) (dg x.num.natAbs) (dg x.den)=x:=by
 unfold qv;rw[GA,BW,Rat.mkRat_self]
theorem pN {d:Nat} (z:Nat) (hd:d≠0):0<Nat.gcd d z:=Nat.gcd_pos_of_pos_left z (by omega)
theorem fP {z:Int} {d:Nat} (hd:d≠0):(mkRat z d).num.natAbs=z.natAbs/Nat.gcd d z.natAbs/\(mkRat z d).den=d/Nat.gcd d z.natAbs/\decide ((mkRat z d).num<0)=decide (z<0):=by
 have hg:=pN z.natAbs hd;have h1:=Rat.num_mkRat z d;have h2:=Rat.den_mkRat z d;rw[if_neg hd]at h1 h2;rw[h1,h2];obtain ⟨k,hk⟩:=Nat.gcd_dvd_right d z.natAbs;generalize hG:Nat.gcd d z.natAbs=g at *;have hz:z=(g:Int)*(z.sign*k):=by
  rw[<-Int.mul_assoc,Int.mul_comm (g:Int),Int.mul_assoc,<-Int.natCast_mul,<-hk,Int.sign_mul_natAbs]
 have e1:z/(g:Int)=z.sign*k:=by
  rw[hz,Int.mul_ediv_cancel_left _ (by omega),<-hz]
 refine ⟨?_,rfl,?_⟩
 ·rw[e1,Int.natAbs_mul,hk,Nat.mul_div_cancel_left _ hg]
  by_cases h0:z=0
  ·subst h0
   have:k=0:=by
    have h5:g*k=0:=hk.symm;rcases Nat.mul_eq_zero.1 h5 with h|h
    ·omega
    ·exact h
   subst this;simp
  ·rw[Int.natAbs_sign_of_ne_zero h0,Nat.one_mul];simp
 ·congr 1
  rw[eq_iff_iff];rw[Int.ediv_lt_iff_lt_mul (by omega),Int.zero_mul]
theorem E8 (x:Rat):A7 (.agg (eQ x)):=by
 simp only[A7,CJ,and_true,true_and];exact ⟨CS _,CS _⟩
theorem UU (b w:Bool) (m d:List Nat):A7 (.agg [.bool b,.sl false (m.map AL),.sl false (d.map AL),.bool w]):=by
 simp only[A7,CJ,and_true,true_and];exact ⟨CS _,CS _⟩
theorem Ta (b:Bool) (m:List Nat):A7 (.agg [.bool b,.sl false (m.map AL)]):=by
 simp only[A7,CJ,and_true,true_and];exact CS _
theorem XU (b:Bool) (m d:List Nat):A7 (.agg [.bool b,.sl false (m.map AL),.sl false (d.map AL)]):=by
 simp only[A7,CJ,and_true,true_and];exact ⟨CS _,CS _⟩
theorem VM (q:Bool) (l:List Nat):UA (.sl q (l.map AL)):=by
 intro e he c hc;obtain ⟨x,_,rfl⟩:=List.mem_map.1 he;simp at hc;subst hc;rfl
theorem aR {r:AV} {K:AV->Prop} (h:JH r) (hk:K (Aa r)):BV r K:=⟨Or.inl h,by rw[eP h];exact hk⟩
theorem yS {r:AV} {K:AV->Prop} (h : ¬ JH r) (hd:QO r) (hk:K (KN r)):BV r K:=⟨Or.inr hd,by rw[eN h];exact hk⟩
theorem I1 {b w q1 q2:Bool} {m d:List Nat} {K:AV->Prop} (hk:K (.agg [.bool b,.sl true (m.map AL),.sl true (d.map AL),.bool w])):BV (.agg [.bool b,.sl q1 (m.map AL),.sl q2 (d.map AL),.bool w]) K:=by
 refine aR ?_ hk;intro c hc;simp only[List.mem_cons,List.not_mem_nil,or_false]at hc;rcases hc with rfl|rfl|rfl|rfl
 ·trivial
 ·exact VM _ _
 ·exact VM _ _
 ·trivial
theorem jP {b q1 q2:Bool} {m d:List Nat} {K:AV->Prop} (hk:K (.agg [.bool b,.sl true (m.map AL),.sl true (d.map AL)])):BV (.agg [.bool b,.sl q1 (m.map AL),.sl q2 (d.map AL)]) K:=by
 refine aR ?_ hk;intro c hc;simp only[List.mem_cons,List.not_mem_nil,or_false]at hc;rcases hc with rfl|rfl|rfl
 ·trivial
 ·exact VM _ _
 ·exact VM _ _
theorem WZ {b q1:Bool} {m:List Nat} {K:AV->Prop} (hk:K (.agg [.bool b,.sl true (m.map AL)])):BV (.agg [.bool b,.sl q1 (m.map AL)]) K:=by
 refine aR ?_ hk;intro c hc;simp only[List.mem_cons,List.not_mem_nil,or_false]at hc;rcases hc with rfl|rfl
 ·trivial
 ·exact VM _ _
theorem eJ : ∀ l:List Nat,OA (l.map AL)=l.map AL
 | []=>by simp [OA]
 | x::l=>by rw[List.map_cons,OA,eJ l];rfl
theorem T9 {b b2 q1 q2:Bool} {m d:List Nat} {K:AV->Prop} (hk:K (.g9 [.agg [.bool b,.sl true (m.map AL)],.agg [.bool b2,.sl true (d.map AL)]])):BV (.g9 [.agg [.bool b,.sl q1 (m.map AL)],.agg [.bool b2,.sl q2 (d.map AL)]]) K:=by
 refine yS (λ h=>h) (λ v hv => ?_) ?_
 ·simp only[List.mem_cons,List.not_mem_nil,or_false]at hv
  rcases hv with rfl|rfl<;>trivial
 ·have e:KN (.g9 [.agg [.bool b,.sl q1 (m.map AL)],.agg [.bool b2,.sl q2 (d.map AL)]]) = .g9 [.agg [.bool b,.sl true (OA (m.map AL))],.agg [.bool b2,.sl true (OA (d.map AL))]]:=rfl
  rw[e,eJ,eJ];exact hk
theorem fJ {a b:Int} {d e:Nat} (hd:d≠0) (he:e≠0):mkRat a d+mkRat b e=mkRat (a*e+b*d) (d*e):=Rat.mkRat_add_mkRat a b hd he
theorem rM {a b:Int} {d:Nat} (hd:d≠0):mkRat a d+mkRat b d=mkRat (a+b) d:=by
 rw[fJ hd hd,<-Int.add_mul,Rat.mkRat_mul_right hd]
theorem fK (a b:Int) (d e:Nat):mkRat a d*mkRat b e=mkRat (a*b) (d*e):=Rat.mkRat_mul_mkRat a b d e
theorem rN (a:Int):mkRat a 1=(a:Rat):=by
 have h:=Rat.mkRat_self (a:Rat);rw[Rat.num_intCast,Rat.den_intCast]at h;exact h
theorem fO {z:Int} {d:Nat} (hd:d≠0):mkRat z d=0↔z=0:=Rat.mkRat_eq_zero hd
theorem rO {z:Int} {d:Nat} (hd:d≠0):fb (mkRat z d).num=fb z:=by
 obtain ⟨_,_,h⟩:=fP (z:=z) hd;have h0:(mkRat z d).num=0↔z=0:=by rw[Rat.num_eq_zero,fO hd]
 have h1:(mkRat z d).num<0↔z<0:=by simpa using h
 unfold fb;by_cases a:z<0
 ·rw[if_pos a,if_pos (h1.2 a)]
 ·rw[if_neg a,if_neg (λ h=>a (h1.1 h))]
  by_cases b:z=0
  ·rw[if_neg (by omega),if_neg (by have:=h0.2 b;omega)]
  ·rw[if_pos (by omega),if_pos (by have:=mt h0.1 b;have:=mt h1.1 a;omega)]
theorem AeX {a b:Int} {d e:Nat} (hd:d≠0) (he:e≠0) (hb:b≠0):mkRat a d/mkRat b e=mkRat (b.sign*(a*e)) (d*b.natAbs):=by
 have hbn:b.natAbs≠0:=by omega
 have h1:mkRat b e≠0:=λ h=>hb ((fO he).1 h)
 have key:mkRat (b.sign*(a*e)) (d*b.natAbs)*mkRat b e=mkRat a d:=by
  rw[fK];have e1:b.sign*(a*e)*b=a*((b.natAbs*e:Nat):Int):=by
   have:=Int.sign_mul_self b
   rw[Int.natCast_mul,<-this];grind
  rw[e1,show d*b.natAbs*e=d*(b.natAbs*e) by rw[Nat.mul_assoc]];exact Rat.mkRat_mul_right (Nat.mul_ne_zero hbn he)
 rw[<-key,Rat.mul_div_cancel h1]
theorem AhL {x y:Int} (hy:y≠0):zv (decide (x<0) != decide (y<0)) (dg x.natAbs)=y.sign*x:=by
 unfold zv;rw[BW];rcases Int.lt_or_gt_of_ne hy with h|h
 ·rw[Int.sign_eq_neg_one_of_neg h]
  by_cases hx:x<0
  ·simp [hx,h];omega
  ·simp [hx,h];omega
 ·rw[Int.sign_eq_one_of_pos h]
  by_cases hx:x<0
  ·simp [hx,show ¬ y<0 by omega];omega
  ·simp [hx,show ¬ y<0 by omega];omega
def Bt (k:Nat) (x:Rat):Prop:=x.num.natAbs<=2^k/\x.den<=2^k
theorem Bt.le {k l:Nat} {x:Rat} (h:Bt k x) (hl:k<=l):Bt l x:=by
 have:=Nat.pow_le_pow_right (show 0<2 by omega) hl
 exact ⟨Nat.le_trans h.1 this,Nat.le_trans h.2 this⟩
theorem Bt.mk {k:Nat} {z:Int} {d:Nat} (hz:z.natAbs<=2^k) (hd:d<=2^k):Bt k (mkRat z d):=by
 by_cases h0:d=0
 ·subst h0
  rw[Rat.mkRat_zero];exact ⟨by simp,by simp;exact Nat.one_le_two_pow⟩
 ·obtain ⟨e1,e2,_⟩:=fP (z:=z) h0
  unfold Bt;rw[e1,e2];exact ⟨Nat.le_trans (Nat.div_le_self _ _) hz,Nat.le_trans (Nat.div_le_self _ _) hd⟩
theorem Bt.add {k l:Nat} {x y:Rat} (hx:Bt k x) (hy:Bt l y):Bt (k+l+1) (x+y):=by
 rw[Rat.add_def'];refine Bt.mk ?_ ?_
 ·have h1:(x.num*y.den).natAbs<=2^k*2^l:=by rw[Int.natAbs_mul,Int.natAbs_natCast];exact Nat.mul_le_mul hx.1 hy.2
  have h2:(y.num*x.den).natAbs<=2^l*2^k:=by rw[Int.natAbs_mul,Int.natAbs_natCast];exact Nat.mul_le_mul hy.1 hx.2
  rw[Nat.mul_comm (2^l)]at h2;rw[Nat.pow_succ,Nat.pow_add];have h3:=Int.natAbs_add_le (x.num*y.den) (y.num*x.den);omega
 ·rw[Nat.pow_succ,Nat.pow_add]
  have:=Nat.mul_le_mul hx.2 hy.2
  omega
theorem Bt.mul {k l:Nat} {x y:Rat} (hx:Bt k x) (hy:Bt l y):Bt (k+l) (x*y):=by
 rw[Rat.mul_def'];refine Bt.mk ?_ ?_
 ·rw[Int.natAbs_mul,Nat.pow_add];exact Nat.mul_le_mul hx.1 hy.1
 ·rw[Nat.pow_add];exact Nat.mul_le_mul hx.2 hy.2
theorem Bt.zero (k:Nat):Bt k 0:=⟨by simp,by simp;exact Nat.one_le_two_pow⟩
theorem Bt.one (k:Nat):Bt k 1:=⟨by simp;exact Nat.one_le_two_pow,by simp;exact Nat.one_le_two_pow⟩
theorem Bt.Om {k n:Nat} {x:Rat} (h:Bt k x) (hn:k<32*n):Sm n (dg x.num.natAbs)/\Sm n (dg x.den):=by
 have e:2^k<4294967296^n:=by
  rw[show 4294967296=2^32 from rfl,<-Nat.pow_mul];exact (Nat.pow_lt_pow_iff_right (by omega)).2 hn
 exact ⟨Sm.dg (Nat.lt_of_le_of_lt h.1 e),Sm.dg (Nat.lt_of_le_of_lt h.2 e)⟩
def Bs (k:Nat) (l:List Rat):Prop := ∀ x∈l,Bt k x
theorem Bs.at {k:Nat} {l:List Rat} (h:Bs k l) {i:Nat} {x:Rat} (hx:l[i]? = some x):Bt k x:=h x (zM hx)
theorem Bs.le {k j:Nat} {l:List Rat} (h:Bs k l) (hj:k<=j):Bs j l:=λ x hx=>(h x hx).le hj
theorem Bs.take {k:Nat} {l:List Rat} (h:Bs k l) (n:Nat):Bs k (l.take n):=λ x hx=>h x (List.mem_of_mem_take hx)
def A5:List Rat->List Rat->Rat
 | x::xs,y::ys=>x*y+A5 xs ys
 | _,_=>0
theorem PP (l:List Rat):A5 l []=0:=by cases l<;>rfl
theorem mW : ∀ {a b:List Rat} {x y:Rat},a.length=b.length->A5 (a++[x]) (b++[y])=A5 a b+x*y
 | [],[],x,y,_=>by show x*y+0=0+x*y;rw[Rat.add_zero,Rat.zero_add]
 | p::a,q::b,x,y,h=>by
  show p*q+A5 (a++[x]) (b++[y])=p*q+A5 a b+x*y;rw[mW (by simpa using h),Rat.add_assoc]
theorem cL {a b:List Rat} {i:Nat} {x y:Rat} (hx:a[i]? = some x) (hy:b[i]? = some y):A5 (a.take (i+1)) (b.take (i+1))=A5 (a.take i) (b.take i)+x*y:=by
 have h1:=(zS hx).1;have h2:=(zS hy).1;rw[List.take_add_one,List.take_add_one,hx,hy,Option.toList_some,Option.toList_some,mW (by rw[List.length_take,List.length_take];omega)]
theorem U5 {a b:List Rat} {n:Nat} (h:a.length=n):A5 (a.take n) (b.take n)=A5 a b:=by
 subst h;rw[zT (Nat.le_refl _)];induction a generalizing b with
 | nil=>cases b<;>rfl
 | cons x a ih=>cases b with
  | nil=>rfl
  | cons y b=>simp only[List.length_cons,List.take_succ_cons,A5,ih]
theorem Bs.dot {k l:Nat} : ∀ {a b:List Rat},Bs k a->Bs l b->Bt (a.length*(k+l+1)) (A5 a b)
 | [],b,_,_=>by cases b<;>exact Bt.zero _
 | x::a,[],_,_=>Bt.zero _
 | x::a,y::b,ha,hb=>by
  have h1:=(ha x (by simp)).mul (hb y (by simp));have h2:=Bs.dot (a:=a) (b:=b) (λ z hz=>ha z (by simp [hz])) (λ z hz=>hb z (by simp [hz]));refine (h1.add h2).le ?_;rw[List.length_cons,Nat.succ_mul];omega
def UI (a b:List Rat):List Rat:=List.zipWith (· + ·) a b
theorem mQ : ∀ {a u v:List Rat},u.length=v.length->A5 a (UI u v)=A5 a u+A5 a v
 | [],_,_,_=>by simp only[A5];rw[Rat.add_zero]
 | x::a,[],[],_=>by simp only[UI,List.zipWith_nil_left,A5];rw[Rat.add_zero]
 | x::a,p::u,q::v,h=>by
  show x*(p+q)+A5 a (UI u v)=_;rw[mQ (by simpa using h)];simp only[A5];grind
structure aY where
 a:List (List Rat)
 b:List Rat
 c:List Rat
 d:Rat
def FR (n:Nat) (j:Int):List Rat:=(List.range n).map λ i:Nat=>if (i:Int)=j then 1 else 0
theorem WQ (n:Nat) (j:Int):(FR n j).length=n:=by simp [FR]
def DF (m:List (List Rat)) (j:Nat):List Rat:=m.map λ r=>r.getD j 0
def E0 (r:List Rat) (m:List (List Rat)) (n:Nat):List Rat:=(List.range n).map λ j=>A5 r (DF m j)
def DE (a m:List (List Rat)) (n:Nat):List (List Rat):=a.map λ r=>E0 r m n
def DK (n:Nat):List (List Rat):=(List.range n).map λ i:Nat=>FR n i
def HR (m:List (List Rat)) (b:List Rat):List Rat:=m.map λ r=>A5 r b
theorem UY (m:List (List Rat)) (j:Nat):(DF m j).length=m.length:=by simp [DF]
theorem O2 (r:List Rat) (m:List (List Rat)) (n:Nat):(E0 r m n).length=n:=by simp [E0]
theorem Y1 (a m:List (List Rat)) (n:Nat):(DE a m n).length=a.length:=by simp [DE]
theorem rT (m:List (List Rat)) (b:List Rat):(HR m b).length=m.length:=by simp [HR]
structure Sq (n:Nat) (m:List (List Rat)):Prop where
 l:m.length=n
 r : ∀ r∈m,r.length=n
theorem Sq.at {n:Nat} {m:List (List Rat)} (h:Sq n m) {i:Nat} {r:List Rat} (hr:m[i]? = some r):r.length=n:=h.r r (zM hr)
theorem Sq.mul {n:Nat} {a:List (List Rat)} (h:a.length=n) (m:List (List Rat)):Sq n (DE a m n):=by
 refine ⟨by rw[Y1,h],λ r hr => ?_⟩;obtain ⟨x,_,rfl⟩:=List.mem_map.1 hr;exact O2 _ _ _
theorem Sq.id (n:Nat):Sq n (DK n):=by
 refine ⟨by simp [DK],λ r hr => ?_⟩;obtain ⟨i,_,rfl⟩:=List.mem_map.1 hr;exact WQ _ _
def Ms (k:Nat) (m:List (List Rat)):Prop := ∀ r∈m,Bs k r
theorem Ms.at {k:Nat} {m:List (List Rat)} (h:Ms k m) {i:Nat} {r:List Rat} (hr:m[i]? = some r):Bs k r:=h r (zM hr)
theorem Ms.getD {k:Nat} {m:List (List Rat)} (h:Ms k m) (i j:Nat):Bt k ((m.getD i []).getD j 0):=by
 rw[List.getD_eq_getElem?_getD,List.getD_eq_getElem?_getD];cases e:m[i]? with
 | none=>exact Bt.zero k
 | some r =>
  simp only[Option.getD_some];cases e2:r[j]? with
  | none=>exact Bt.zero k
  | some x=>exact (h.at e).at e2
theorem Ms.id (n k:Nat):Ms k (DK n):=by
 intro r hr x hx;obtain ⟨i,_,rfl⟩:=List.mem_map.1 hr;simp only[FR,List.mem_map]at hx;obtain ⟨a,_,rfl⟩:=hx;split
 ·exact Bt.one k
 ·exact Bt.zero k
theorem KJ : ∀ a b:List Rat,A5 a b=A5 b a
 | [],[]=>rfl
 | [],_::_=>rfl
 | _::_,[]=>rfl
 | x::a,y::b=>by simp only[A5,KJ a b,Rat.mul_comm]
theorem U6 : ∀ (v:List Rat) (n:Nat),A5 (List.replicate n 0) v=0
 | [],n=>PP _
 | y::v,0=>rfl
 | y::v,n+1=>by rw[List.replicate_succ];simp only[A5,U6 v n];grind
theorem Yj (v:List Rat) (n:Nat):A5 v (List.replicate n 0)=0:=by rw[KJ,U6]
theorem mV (x:Rat) : ∀ a b:List Rat,A5 (a.map (x * ·)) b=x*A5 a b
 | [],_=>by simp [A5]
 | _::_,[]=>by simp [A5]
 | p::a,q::b=>by simp only[List.map_cons,A5,mV x a b];grind
theorem Ae5 (u:List Rat) (n:Nat):E0 u [] n=List.replicate n 0:=by
 refine List.ext_getElem? λ j => ?_
 simp only[E0,DF,List.map_nil,PP,List.getElem?_map,List.getElem?_replicate];by_cases h:j<n
 ·rw[List.getElem?_range h,if_pos h];rfl
 ·rw[List.getElem?_eq_none (by simp;omega),if_neg h];rfl
theorem Ae6 (m:List (List Rat)) (n:Nat):E0 [] m n=List.replicate n 0:=by
 refine List.ext_getElem? λ j => ?_
 simp only[E0,A5,List.getElem?_map,List.getElem?_replicate];by_cases h:j<n
 ·rw[List.getElem?_range h,if_pos h];rfl
 ·rw[List.getElem?_eq_none (by simp;omega),if_neg h];rfl
theorem Ae4 (x:Rat) (u r:List Rat) (m:List (List Rat)) (n:Nat) (hr:r.length=n):E0 (x::u) (r::m) n=UI (r.map (x * ·)) (E0 u m n):=by
 refine List.ext_getElem? λ j => ?_
 simp only[E0,UI,List.getElem?_map,List.getElem?_zipWith];by_cases h:j<n
 ·rw[List.getElem?_range h]
  obtain ⟨y,hy⟩ : ∃ y,r[j]? = some y:=⟨_,zE (by omega)⟩;rw[hy];simp only[Option.map_some,DF,List.map_cons,A5,List.getD_eq_getElem?_getD,hy,Option.getD_some]
 ·rw[List.getElem?_eq_none (by simp;omega),List.getElem?_eq_none (l:=r) (by omega)]
  rfl
theorem mR {n:Nat} {v:List Rat} : ∀ (m:List (List Rat)) (u:List Rat),(∀ r∈m,r.length=n)->A5 (E0 u m n) v=A5 u (HR m v)
 | [],u,_=>by rw[Ae5,U6,HR,List.map_nil,PP]
 | r::m,[],_=>by rw[Ae6,U6];rfl
 | r::m,x::u,h=>by
  have hr:=h r (by simp);rw[Ae4 x u r m n hr,KJ,mQ (by rw[List.length_map,O2];exact hr),KJ v,KJ v,mV,mR m u λ r hr=>h r (by simp [hr])];rfl
theorem rU {n:Nat} (a m:List (List Rat)) (v:List Rat) (h : ∀ r∈m,r.length=n):HR (DE a m n) v=HR a (HR m v):=by
 simp only[HR,DE,List.map_map];exact List.map_congr_left λ r _=>mR m r h
theorem fS {n:Nat} {b:List Rat} (hb:b.length=n):HR (DK n) b=b:=by
 have unit : ∀ (k n i:Nat) (b:List Rat),b.length=n->A5 ((List.range' k n).map λ a:Nat=>if (a:Int)=((k+i:Nat):Int) then 1 else 0) b=b.getD i 0:=by
  intro k n;induction n generalizing k with
  | zero=>intro i b hb;obtain rfl:=List.eq_nil_of_length_eq_zero hb;simp [A5]
  | succ n ih =>
   intro i b hb;cases b with
   | nil=>simp at hb
   | cons y b =>
    rw[List.range'_succ,List.map_cons,A5];cases i with
    | zero =>
     have hz:((List.range' (k+1) n).map λ a:Nat=>if (a:Int)=((k+0:Nat):Int) then (1:Rat) else 0)=List.replicate n 0:=by
      rw[List.eq_replicate_iff];refine ⟨by simp,λ x hx => ?_⟩;obtain ⟨a,ha,rfl⟩:=List.mem_map.1 hx;rw[if_neg];have:=(List.mem_range'_1.1 ha).1
      omega
     rw[hz,U6,if_pos (by simp)];simp [Rat.add_zero]
    | succ i =>
     have:=ih (k+1) i b (by simpa using hb)
     rw[show k+1+i=k+(i+1) by omega]at this;rw[this,if_neg (by omega),List.getD_cons_succ];grind
 refine List.ext_getElem? λ r => ?_
 simp only[HR,DK,List.getElem?_map];by_cases h:r<n
 ·rw[List.getElem?_range h]
  have:=unit 0 n r b hb
  rw[Nat.zero_add]at this;simp only[Option.map_some,FR,List.range_eq_range']at this ⊢;rw[this,List.getD_eq_getElem?_getD,zE (by omega)];rfl
 ·rw[List.getElem?_eq_none (by simp;omega),List.getElem?_eq_none (by omega)]
  rfl
def wQ (S:aY):Nat->List Rat
 | 0=>S.b
 | j+1=>HR S.a (wQ S j)
def conv (A h:Nat->Rat) (K:Nat):Nat->Rat
 | 0=>0
 | a+1=>conv A h K a+A a*h (K-a)
def EJ (m:List (List Rat)) (X:List Rat):Prop := ∀ r∈m,A5 r X=0
def comb (p f l:Rat) (r t:List Rat):List Rat:=List.zipWith (λ x y=>(x*p-y*f)/l) r t
theorem U0 {p f l:Rat} {r t:List Rat} (h:r.length=t.length):(comb p f l r t).length=r.length:=by simp [comb,h]
theorem bY (p f l:Rat) : ∀ (r t X:List Rat),r.length=t.length->A5 (comb p f l r t) X=(p*A5 r X-f*A5 t X)/l
 | [],[],X,_=>by
  show A5 [] X=_;simp only[A5,Rat.div_def];grind
 | x::r,y::t,[],_=>by
  simp only[comb,List.zipWith_cons_cons,A5,Rat.div_def];grind
 | x::r,y::t,z::X,h=>by
  have ih:=bY p f l r t X (by simpa using h);simp only[comb]at ih;simp only[comb,List.zipWith_cons_cons,A5,ih,Rat.div_def];grind
theorem X0 {p f l:Rat} {r t:List Rat} {j:Nat} {x y:Rat} (hx:r[j]? = some x) (hy:t[j]? = some y):(comb p f l r t)[j]? = some ((x*p-y*f)/l):=by
 simp [comb,List.getElem?_zipWith,hx,hy]
theorem OB {m:List (List Rat)} {i:Nat} {x r:List Rat} (h:r∈m.set i x):r=x \/ ∃ j,j≠i/\m[j]? = some r:=by
 obtain ⟨j,hj⟩:=List.getElem?_of_mem h;rw[List.getElem?_set]at hj;by_cases e:i=j
 ·subst e
  rw[if_pos rfl]at hj;split at hj
  ·exact Or.inl (Option.some.inj hj).symm
  ·cases hj
 ·rw[if_neg e]at hj
  exact Or.inr ⟨j,Ne.symm e,hj⟩
theorem qO {m:List (List Rat)} {i k:Nat} {r t:List Rat} {p f l:Rat} (hi:m[i]? = some r) (hk:m[k]? = some t) (lz:k≠i) (hl:r.length=t.length) (hp:p≠0) (h0:l≠0) (X:List Rat):EJ (m.set i (comb p f l r t)) X↔EJ m X:=by
 have hc:=bY p f l r t X hl;have au:=(zS hi).1;constructor
 ·intro h r' mn
  have ht:A5 t X=0:=h t (by
   refine zM (i:=k) ?_;rw[List.getElem?_set,if_neg (Ne.symm lz)];exact hk)
  have hn:A5 (comb p f l r t) X=0:=h _ (zM (i:=i) (by rw[List.getElem?_set,if_pos rfl,if_pos au]));rw[hc,ht]at hn;have k9:A5 r X=0:=by
   have e1:=Rat.div_mul_cancel h0 (a:=p*A5 r X-f*0);rw[hn]at e1;have e2:p*A5 r X=0:=by grind
   rcases Rat.mul_eq_zero.1 e2 with h|h
   ·exact absurd h hp
   ·exact h
  obtain ⟨j,hj⟩:=List.getElem?_of_mem mn;by_cases e:j=i
  ·subst e
   obtain rfl:=Option.some.inj (hi.symm.trans hj);exact k9
  ·exact h r' (zM (i:=j) (by rw[List.getElem?_set,if_neg (Ne.symm e)];exact hj))
 ·intro h r' mn
  rcases OB mn with rfl|⟨j,_,hj⟩
  ·rw[hc,h r (zM hi),h t (zM hk),Rat.div_def];grind
  ·exact h r' (zM hj)
theorem qN {m:List (List Rat)} {i k:Nat} {a b:List Rat} (hi:m[i]? = some a) (hk:m[k]? = some b) (X:List Rat):EJ ((m.set i b).set k a) X↔EJ m X:=by
 have au:=(zS hi).1;have pe:=(zS hk).1;constructor
 ·intro h r hr
  obtain ⟨j,hj⟩:=List.getElem?_of_mem hr;by_cases e1:j=k
  ·subst e1
   obtain rfl:=Option.some.inj (hk.symm.trans hj);by_cases e2:i=j
   ·subst e2
    obtain rfl:=Option.some.inj (hi.symm.trans hk);exact h _ (zM (i:=i) (by rw[List.getElem?_set,if_pos rfl,List.length_set,if_pos au]))
   ·exact h _ (zM (i:=i) (by rw[List.getElem?_set,if_neg (Ne.symm e2),List.getElem?_set,if_pos rfl,if_pos au]))
  ·by_cases e2:j=i
   ·subst e2
    obtain rfl:=Option.some.inj (hi.symm.trans hj);exact h _ (zM (i:=k) (by rw[List.getElem?_set,if_pos rfl,List.length_set,if_pos pe]))
   ·exact h _ (zM (i:=j) (by rw[List.getElem?_set,if_neg (Ne.symm e1),List.getElem?_set,if_neg (Ne.symm e2)];exact hj))
 ·intro h r hr
  rcases OB hr with rfl|⟨j,_,hj⟩
  ·exact h _ (zM hi)
  ·rcases OB (zM hj) with rfl|⟨q,_,hq⟩
   ·exact h _ (zM hk)
   ·exact h _ (zM hq)
structure C8 (m:List (List Rat)) (W c:Nat) (P:List Nat):Prop where
 lr : ∀ r∈m,r.length=W
 pl:P.length<=m.length
 inc : ∀ i j p q:Nat,i<j->P[i]? = some p->P[j]? = some q->p<q
 pb : ∀ p∈P,p<c
 nz : ∀ (i p:Nat) (r:List Rat),P[i]? = some p->m[i]? = some r->r.getD p 0≠0 /\ ∀ j,j<p->r.getD j 0=0
 zr : ∀ (i:Nat) (r:List Rat),P.length<=i->m[i]? = some r -> ∀ j,j<c->r.getD j 0=0
theorem C8.start {m:List (List Rat)} {W:Nat} (h : ∀ r∈m,r.length=W):C8 m W 0 [] :=
 ⟨h,Nat.zero_le _,λ i j p q _ h=>by simp at h,(λ p h=>by cases h),(λ i p r h=>by simp at h),λ i r _ _ j hj=>absurd hj (by omega)⟩
theorem C8.skip {m:List (List Rat)} {W c:Nat} {P:List Nat} (h:C8 m W c P) (hz : ∀ i r,P.length<=i->m[i]? = some r->r.getD c 0=0):C8 m W (c+1) P :=
 ⟨h.lr,h.pl,h.inc,λ p hp=>Nat.lt_succ_of_lt (h.pb p hp),h.nz,λ i r hi hr j hj=>by
  by_cases e:j=c
  ·subst e;exact hz i r hi hr
  ·exact h.zr i r hi hr j (by omega)⟩
theorem C8.swap {m:List (List Rat)} {W c i k:Nat} {P:List Nat} {a b:List Rat} (h:C8 m W c P) (hi:m[i]? = some a) (hk:m[k]? = some b) (h1:P.length<=i) (h2:P.length<=k):C8 ((m.set i b).set k a) W c P:=by
 have hg : ∀ q,q<P.length->((m.set i b).set k a)[q]? = m[q]? := λ q hq=>by
  rw[List.getElem?_set,if_neg (by omega),List.getElem?_set,if_neg (by omega)]
 have hm : ∀ q r,P.length<=q->((m.set i b).set k a)[q]? = some r -> ∃ q',P.length<=q'/\m[q']? = some r:=λ q r hq hr=>by
  rw[List.getElem?_set]at hr;split at hr
  ·split at hr
   ·obtain rfl:=Option.some.inj hr;exact ⟨i,h1,hi⟩
   ·cases hr
  ·rw[List.getElem?_set]at hr
   split at hr
   ·split at hr
    ·obtain rfl:=Option.some.inj hr;exact ⟨k,h2,hk⟩
    ·cases hr
   ·exact ⟨q,hq,hr⟩
 refine ⟨λ r hr => ?_,by simpa using h.pl,h.inc,h.pb,λ q p r hp hr => ?_,λ q r hq hr j hj => ?_⟩
 ·rcases OB hr with rfl|⟨j,_,hj⟩
  ·exact h.lr _ (zM hi)
  ·rcases OB (zM hj) with rfl|⟨q,_,hq⟩
   ·exact h.lr _ (zM hk)
   ·exact h.lr _ (zM hq)
 ·rw[hg q (zS hp).1]at hr
  exact h.nz q p r hp hr
 ·obtain ⟨q',h3,h4⟩:=hm q r hq hr
  exact h.zr q' r h3 h4 j hj
theorem C8.tk {m:List (List Rat)} {W c:Nat} {P:List Nat} {t:List Rat} (h:C8 m W c P) (ht:m[P.length]? = some t) (hn:t.getD c 0≠0) (hz : ∀ i r,P.length<i->m[i]? = some r->r.getD c 0=0):C8 m W (c+1) (P++[c]):=by
 have xf:=(zS ht).1;refine ⟨h.lr,by simp;omega,λ i j p q ux hp hq => ?_,λ p hp => ?_,λ i p r hp hr => ?_,λ i r hi hr j hj => ?_⟩
 ·have ew:=(zS hq).1
  rw[List.length_append,List.length_singleton]at ew;rw[List.getElem?_append_left (by omega)]at hp;by_cases e:j<P.length
  ·rw[List.getElem?_append_left e]at hq
   exact h.inc i j p q ux hp hq
  ·rw[List.getElem?_append_right (by omega),show j-P.length=0 by omega]at hq
   obtain rfl:=Option.some.inj hq;exact h.pb p (zM hp)
 ·rcases List.mem_append.1 hp with hp|hp
  ·exact Nat.lt_succ_of_lt (h.pb p hp)
  ·obtain rfl:=List.mem_singleton.1 hp;omega
 ·by_cases e:i<P.length
  ·rw[List.getElem?_append_left e]at hp
   exact h.nz i p r hp hr
  ·have au:=(zS hp).1
   rw[List.length_append,List.length_singleton]at au;rw[List.getElem?_append_right (by omega),show i-P.length=0 by omega]at hp;obtain rfl:=Option.some.inj hp;obtain rfl:i=P.length:=by omega
   obtain rfl:=Option.some.inj (ht.symm.trans hr);exact ⟨hn,λ j hj=>h.zr P.length _ (Nat.le_refl _) ht j hj⟩
 ·rw[List.length_append,List.length_singleton]at hi
  by_cases e:j=c
  ·subst e;exact hz i r (by omega) hr
  ·exact h.zr i r (by omega) hr j (by omega)
theorem C8.diag {m:List (List Rat)} {W c:Nat} {P:List Nat} (h:C8 m W c P) (hP:P.length=c) : ∀ i p:Nat,P[i]? = some p->p=i:=by
 have up : ∀ d i p:Nat,P[i]? = some p->i+d<c->p+d<c:=by
  intro d;induction d with
  | zero=>intro i p hp _;exact h.pb p (zM hp)
  | succ d ih =>
   intro i p hp hi;obtain ⟨q,hq⟩ : ∃ q,P[i+1]? = some q:=⟨_,zE (by omega)⟩;have h1:=h.inc i (i+1) p q (by omega) hp hq;have h2:=ih (i+1) q hq (by omega);omega
 have dn : ∀ i p:Nat,P[i]? = some p->i<=p:=by
  intro i;induction i with
  | zero=>intro p _;omega
  | succ i ih =>
   intro p hp;have au:=(zS hp).1;obtain ⟨q,hq⟩ : ∃ q,P[i]? = some q:=⟨_,zE (by omega)⟩;have h1:=h.inc i (i+1) q p (by omega) hq hp;have h2:=ih q hq;omega
 intro i p hp;have au:=(zS hp).1;have h1:=dn i p hp;have h2:=up (c-1-i) i p hp (by omega);omega
def DZ (f:Nat->Rat):Nat->Rat
 | 0=>0
 | n+1=>DZ f n+f n
theorem iJ {f g:Nat->Rat} : ∀ n,(∀ j,j<n->f j=g j)->DZ f n=DZ g n
 | 0,_=>rfl
 | n+1,h=>by rw[DZ,DZ,iJ n λ j hj=>h j (by omega),h n (by omega)]
theorem SA {f:Nat->Rat} : ∀ n,(∀ j,j<n->f j=0)->DZ f n=0
 | 0,_=>rfl
 | n+1,h=>by rw[DZ,SA n λ j hj=>h j (by omega),h n (by omega),Rat.add_zero]
theorem vP {f:Nat->Rat} {n:Nat} : ∀ d,(∀ j,n<=j->f j=0)->DZ f (n+d)=DZ f n
 | 0,_=>rfl
 | d+1,h=>by rw[<-Nat.add_assoc,DZ,vP d h,h (n+d) (by omega),Rat.add_zero]
theorem WI {f:Nat->Rat} {k:Nat} : ∀ n,k<n->(∀ j,j<n->j≠k->f j=0)->DZ f n=f k
 | n+1,hk,h=>by
  by_cases e:k=n
  ·subst e
   rw[DZ,SA k λ j hj=>h j (by omega) (by omega),Rat.zero_add]
  ·rw[DZ,WI n (by omega) λ j hj=>h j (by omega),h n (by omega) (Ne.symm e),Rat.add_zero]
theorem vQ (R y:Nat->Rat) (v:Rat) (k:Nat) : ∀ n,DZ (λ j=>R j*(if j=k then v else y j)) n=DZ (λ j=>R j*y j) n+if k<n then R k*(v-y k) else 0
 | 0=>by simp [DZ,Rat.add_zero]
 | n+1=>by
  rw[DZ,DZ,vQ R y v k n];by_cases e:n=k
  ·subst e
   rw[if_pos rfl,if_neg (Nat.lt_irrefl n),if_pos (Nat.lt_succ_self n)];grind
  ·rw[if_neg e]
   by_cases h:k<n
   ·rw[if_pos h,if_pos (by omega)];grind
   ·rw[if_neg h,if_neg (by omega)];grind
theorem vO (f:Nat->Rat) : ∀ n,DZ f (n+1)=f 0+DZ (λ j=>f (j+1)) n
 | 0=>by simp only[DZ];grind
 | n+1=>by rw[DZ,vO f n,DZ];grind
theorem N7 : ∀ (r X:List Rat) (n:Nat),r.length<=n->A5 r X=DZ (λ j=>r.getD j 0*X.getD j 0) n
 | [],X,n,_=>by rw[SA n λ j _=>by simp];rfl
 | x::r,[],n,_=>by rw[PP,SA n λ j _=>by simp]
 | x::r,y::X,0,h=>by simp at h
 | x::r,y::X,n+1,h=>by
  rw[vO,A5,N7 r X n (by simpa using h)];simp
def CX (m:List (List Rat)) (i j:Nat):Rat:=(m.getD i []).getD j 0
theorem PK {m:List (List Rat)} {i:Nat} {r:List Rat} (h:m[i]? = some r) (j:Nat):CX m i j=r.getD j 0:=by
 rw[CX,show m.getD i []=r by rw[List.getD_eq_getElem?_getD,h];rfl]
def QW (R:Nat->Nat->Rat) (c:Nat):Prop := ∀ i,i<c->R i i≠0 /\ ∀ j,j<i->R i j=0
theorem vZ {R:Nat->Nat->Rat} {c:Nat} (h:QW R c) (f:Nat->Rat) : ∀ d,d<=c -> ∃ y:Nat->Rat,∀ i,c-d<=i->i<c->DZ (λ j=>R i j*y j) c=f i
 | 0,_=>⟨λ_=>0,λ i h1 h2=>absurd h2 (by omega)⟩
 | d+1,hd=>by
  obtain ⟨y,hy⟩:=vZ h f d (by omega);obtain ⟨k,hk⟩ : ∃ k,k=c-(d+1):=⟨_,rfl⟩;have Lu:k<c:=by omega
  refine ⟨λ j=>if j=k then y k+(f k-DZ (λ j=>R k j*y j) c)/R k k else y j,λ i h1 h2 => ?_⟩;rw[vQ (R i) y _ k c,if_pos Lu];by_cases e:i=k
  ·subst e
   have h0:=(h i Lu).1;have:=Rat.div_mul_cancel h0 (a:=f i-DZ (λ j=>R i j*y j) c)
   grind
  ·rw[hy i (by omega) h2,(h i h2).2 k (by omega)];grind
theorem wA {R:Nat->Nat->Rat} {c:Nat} (h:QW R c) {y:Nat->Rat} (hy : ∀ i,i<c->DZ (λ j=>R i j*y j) c=0) : ∀ d,d<=c -> ∀ j,c-d<=j->j<c->y j=0
 | 0,_=>λ j h1 h2=>absurd h2 (by omega)
 | d+1,hd=>λ j h1 h2=>by
  have ih:=wA h hy d (by omega);by_cases e:c-d<=j
  ·exact ih j e h2
  ·have h3:=hy j h2
   rw[WI c h2 λ q hq hn=>by
    by_cases e2:q<j
    ·rw[(h j h2).2 q e2,Rat.zero_mul]
    ·rw[ih q (by omega) hq,Rat.mul_zero]]at h3
   rcases Rat.mul_eq_zero.1 h3 with h4|h4
   ·exact absurd h4 (h j h2).1
   ·exact h4
theorem C8.low {m:List (List Rat)} {W c:Nat} {P:List Nat} (h:C8 m W c P) : ∀ i p:Nat,P[i]? = some p->i<=p
 | 0,p,_=>Nat.zero_le p
 | i+1,p,hp=>by
  have au:=(zS hp).1;obtain ⟨q,hq⟩ : ∃ q,P[i]? = some q:=⟨_,zE (by omega)⟩;have h1:=h.inc i (i+1) q p (by omega) hq hp;have h2:=h.low i q hq;omega
theorem C8.le {m:List (List Rat)} {W c:Nat} {P:List Nat} (h:C8 m W c P):P.length<=c:=by
 cases e:P.length with
 | zero=>exact Nat.zero_le c
 | succ k =>
  obtain ⟨q,hq⟩ : ∃ q,P[k]? = some q:=⟨_,zE (by omega)⟩;have h1:=h.low k q hq;have h2:=h.pb q (zM hq);omega
theorem C8.wide {m:List (List Rat)} {W c n:Nat} {P:List Nat} (h:C8 m W c P) (hP:P.length=m.length) (hn:c<=n):C8 m W n P :=
 ⟨h.lr,h.pl,h.inc,λ p hp=>Nat.lt_of_lt_of_le (h.pb p hp) hn,h.nz,λ i r hi hr=>by
  have:=(zS hr).1
  omega⟩
theorem tO {m:List (List Rat)} {W i n:Nat} {r X:List Rat} (hr:m[i]? = some r) (hl:r.length=W) (hn:n<=W) (hX : ∀ j,n<=j->X.getD j 0=0):A5 r X=DZ (λ j=>CX m i j*X.getD j 0) n:=by
 obtain ⟨d,rfl⟩:=Nat.exists_eq_add_of_le hn;rw[N7 r X (n+d) (by omega),vP d λ j hj=>by rw[hX j hj,Rat.mul_zero]];exact iJ n λ j _=>by rw[PK hr]
theorem C8.Hz {m:List (List Rat)} {W n c:Nat} {P:List Nat} (h:C8 m W n P) (hc : ∀ i,i<c->P[i]? = some i):QW (CX m) c:=λ i hi=>by
 have h1:=(zS (hc i hi)).1;obtain ⟨r,hr⟩ : ∃ r,m[i]? = some r:=⟨_,zE (Nat.lt_of_lt_of_le h1 h.pl)⟩;have:=h.nz i i r (hc i hi) hr
 rw[PK hr];exact ⟨this.1,λ j hj=>by rw[PK hr];exact this.2 j hj⟩
theorem C8.full {m:List (List Rat)} {W n:Nat} {P:List Nat} (h:C8 m W n P) (hP:P.length=n) (hW:n<=W) {X:List Rat} (hk:EJ m X) (hX : ∀ j,n<=j->X.getD j 0=0) (j:Nat):X.getD j 0=0:=by
 have hd : ∀ i,i<n->P[i]? = some i:=λ i hi=>by
  obtain ⟨q,hq⟩ : ∃ q,P[i]? = some q:=⟨_,zE (by omega)⟩;rw[hq,h.diag hP i q hq]
 have ht:=h.Hz hd;by_cases e:j<n
 ·refine wA ht (y:=λ j=>X.getD j 0) (λ i hi => ?_) n (Nat.le_refl n) j (by omega) e
  obtain ⟨r,hr⟩ : ∃ r,m[i]? = some r:=⟨_,zE (by have:=h.pl;omega)⟩;rw[<-tO hr (h.lr r (zM hr)) hW hX];exact hk r (zM hr)
 ·exact hX j (by omega)
theorem C8.gap {m:List (List Rat)} {W n:Nat} {P:List Nat} (h:C8 m W n P) : ∀ c:Nat,c<=P.length->(∀ i:Nat,i<c->P[i]? = some i) \/ ∃ k,(∀ i,i<k->P[i]? = some i) /\ ∃ p:Nat,P[k]? = some p/\k<p
 | 0,_=>Or.inl λ i hi=>absurd hi (by omega)
 | c+1,hc=>by
  rcases h.gap c (by omega) with h1|h1
  ·obtain ⟨q,hq⟩ : ∃ q,P[c]? = some q:=⟨_,zE (by omega)⟩
   have h2:=h.low c q hq;by_cases e:q=c
   ·subst e
    exact Or.inl λ i hi=>by
     by_cases e:i=q
     ·subst e;exact hq
     ·exact h1 i (by omega)
   ·exact Or.inr ⟨c,h1,q,hq,by omega⟩
  ·exact Or.inr h1
theorem PY (f:Nat->Rat) (W j:Nat):((List.range W).map f).getD j 0=if j<W then f j else 0:=by
 rw[List.getD_eq_getElem?_getD,List.getElem?_map];by_cases h:j<W
 ·rw[List.getElem?_range h,if_pos h];rfl
 ·rw[List.getElem?_eq_none (by simp;omega),if_neg h];rfl
theorem C8.less {m:List (List Rat)} {W n:Nat} {P:List Nat} (h:C8 m W n P) (hP:P.length<n) (hW:n<=W) : ∃ X:List Rat,X.length=W/\EJ m X/\(∀ j,n<=j->X.getD j 0=0) /\ ∃ j,X.getD j 0≠0:=by
 obtain ⟨c,ft,hc,hz⟩ : ∃ c,c<n/\(∀ i,i<c->P[i]? = some i) /\ ∀ i r,c<=i->m[i]? = some r -> ∀ j,j<=c->r.getD j 0=0:=by
  rcases h.gap P.length (Nat.le_refl _) with h1|⟨k,h1,p,h2,h3⟩
  ·exact ⟨P.length,hP,h1,λ i r hi hr j hj=>h.zr i r hi hr j (by omega)⟩
  ·refine ⟨k,Nat.lt_trans h3 (h.pb p (zM h2)),h1,λ i r hi hr j hj => ?_⟩
   by_cases e:i<P.length
   ·obtain ⟨q,hq⟩ : ∃ q,P[i]? = some q:=⟨_,zE e⟩
    refine (h.nz i q r hq hr).2 j ?_;by_cases e2:i=k
    ·subst e2
     obtain rfl:=Option.some.inj (h2.symm.trans hq);omega
    ·have:=h.inc k i p q (by omega) h2 hq
     omega
   ·exact h.zr i r (by omega) hr j (by have:=h.pb p (zM h2);omega)
 obtain ⟨y,hy⟩:=vZ (h.Hz hc) (λ i=>CX m i c) c (Nat.le_refl c);have hg : ∀ j,((List.range W).map λ j=>if j<c then y j else if j=c then (-1:Rat) else 0).getD j 0=if j<c then y j else if j=c then (-1:Rat) else 0:=λ j=>by
  rw[PY];by_cases e:j<W
  ·rw[if_pos e]
  ·rw[if_neg e,if_neg (by omega),if_neg (by omega)]
 refine ⟨(List.range W).map λ j=>if j<c then y j else if j=c then (-1:Rat) else 0,by simp,λ r hr => ?_,λ j hj => ?_,c,?_⟩
 ·obtain ⟨i,hi⟩:=List.getElem?_of_mem hr
  rw[tO hi (h.lr r hr) (show c+1<=W by omega) λ j hj=>by rw[hg,if_neg (by omega),if_neg (by omega)],DZ,hg,if_neg (Nat.lt_irrefl c),if_pos rfl];by_cases e:i<c
  ·rw[iJ c (g:=λ j=>CX m i j*y j) λ j hj=>by rw[hg,if_pos hj],hy i (by omega) e];grind
  ·rw[SA c λ j hj=>by rw[PK hi,hz i r (by omega) hi j (by omega),Rat.zero_mul],PK hi,hz i r (by omega) hi c (Nat.le_refl c),Rat.zero_mul,Rat.add_zero]
 ·rw[hg,if_neg (by omega),if_neg (by omega)]
 ·rw[hg,if_neg (Nat.lt_irrefl c),if_pos rfl]
  decide
def QU (m a:List (List Rat)):Prop:=m.length=a.length /\ ∀ (i:Nat) (r:List Rat),a[i]? = some r -> ∃ s:Rat,s≠0/\m[i]? = some (r.map (· * s))
theorem Q4 (x:Rat) : ∀ a b:List Rat,A5 (a.map (· * x)) b=A5 a b*x
 | [],b=>by simp [A5]
 | a::l,[]=>by rw[PP,PP,Rat.zero_mul]
 | a::l,b::k=>by
  simp only[List.map_cons,A5,Q4 x l k];grind
theorem QU.kz {m a:List (List Rat)} (h:QU m a) (X:List Rat):EJ m X↔EJ a X:=by
 constructor
 ·intro hk r hr
  obtain ⟨i,hi⟩:=List.getElem?_of_mem hr;obtain ⟨s,hs,hm⟩:=h.2 i r hi;have:=hk _ (zM hm)
  rw[Q4]at this;rcases Rat.mul_eq_zero.1 this with h|h
  ·exact h
  ·exact absurd h hs
 ·intro hk r hr
  obtain ⟨i,hi⟩:=List.getElem?_of_mem hr;obtain ⟨q,hq⟩ : ∃ q,a[i]? = some q:=⟨_,zE (by have:=(zS hi).1;have:=h.1;omega)⟩;obtain ⟨s,hs,hm⟩:=h.2 i q hq;obtain rfl:=Option.some.inj (hi.symm.trans hm);rw[Q4,hk q (zM hq),Rat.zero_mul]
def DI (a b:List (List Rat)):List (List Rat):=List.zipWith (· ++ ·) a b
def NS (n:Nat) (a:List (List Rat)):Prop := ∀ X:List Rat,X.length=n->EJ a X -> ∀ j,X.getD j 0=0
theorem YA : ∀ (u y v z:List Rat),u.length=y.length->A5 (u++v) (y++z)=A5 u y+A5 v z
 | [],[],v,z,_=>by simp [A5,Rat.zero_add]
 | x::u,w::y,v,z,h=>by
  simp only[List.cons_append,A5,YA u y v z (by simpa using h)];grind
theorem TD {a b:List (List Rat)} {i:Nat} {r s:List Rat} (hr:a[i]? = some r) (hs:b[i]? = some s):(DI a b)[i]? = some (r++s):=by
 simp [DI,List.getElem?_zipWith,hr,hs]
theorem eE {n:Nat} {a b:List (List Rat)} (hl:a.length=b.length) (ha : ∀ r∈a,r.length=n) (y z:List Rat) (hy:y.length=n):EJ (DI a b) (y++z) ↔ ∀ (i:Nat) (r s:List Rat),a[i]? = some r->b[i]? = some s->A5 r y+A5 s z=0:=by
 constructor
 ·intro h i r s hr hs
  rw[<-YA r y s z (by rw[ha r (zM hr),hy])];exact h _ (zM (TD hr hs))
 ·intro h q hq
  obtain ⟨i,hi⟩:=List.getElem?_of_mem hq;have au:=(zS hi).1;simp only[DI,List.length_zipWith]at au;obtain ⟨r,hr⟩ : ∃ r,a[i]? = some r:=⟨_,zE (by omega)⟩;obtain ⟨s,hs⟩ : ∃ s,b[i]? = some s:=⟨_,zE (by omega)⟩;obtain rfl:=Option.some.inj ((TD hr hs).symm.trans hi);rw[YA r y s z (by rw[ha r (zM hr),hy])];exact h i r s hr hs
theorem Yk {X:List Rat} (h : ∀ j,X.getD j 0=0) (r:List Rat):A5 r X=0:=by
 rw[N7 r X r.length (Nat.le_refl _)];exact SA _ λ j _=>by rw[h,Rat.mul_zero]
theorem tE {m a b:List (List Rat)} {w n:Nat} {P:List Nat} (h:C8 m (n+w) n P) (hk : ∀ X,EJ m X↔EJ (DI a b) X) (hl:a.length=b.length) (ha : ∀ r∈a,r.length=n):P.length=n↔NS n a:=by
 constructor
 ·intro hP X hX hka j
  have h1:EJ m (X++List.replicate w 0):=(hk _).2 ((eE hl ha X _ hX).2 λ i r s hr hs=>by
   rw[hka r (zM hr),Yj,Rat.add_zero])
  by_cases e:j<n
  ·have h2:=h.full hP (by omega) h1 (λ j hj=>by
    rw[List.getD_eq_getElem?_getD,List.getElem?_append_right (by omega),List.getElem?_replicate];split<;>rfl) j
   rw[List.getD_eq_getElem?_getD,List.getElem?_append_left (by omega)]at h2;rw[List.getD_eq_getElem?_getD];exact h2
  ·rw[List.getD_eq_getElem?_getD,List.getElem?_eq_none (by omega)];rfl
 ·intro ic
  have h1:=h.le;rcases Nat.lt_or_ge P.length n with hP|hP
  ·exfalso
   obtain ⟨X,hX,hX1,Pa,j,hj⟩:=h.less hP (by omega);have h2:=(hk _).1 hX1;rw[<-List.take_append_drop n X]at h2;have ct:(X.take n).length=n:=by simp;omega
   have h3:=(eE hl ha _ _ ct).1 h2;have hz : ∀ q,(X.drop n).getD q 0=0:=λ q=>by
    have:=Pa (n+q) (by omega)
    rw[List.getD_eq_getElem?_getD]at this;rw[List.getD_eq_getElem?_getD,List.getElem?_drop];exact this
   have h4:=ic (X.take n) ct (λ r hr=>by
    obtain ⟨i,hi⟩:=List.getElem?_of_mem hr;obtain ⟨s,hs⟩ : ∃ s,b[i]? = some s:=⟨_,zE (by have:=(zS hi).1;omega)⟩;have:=h3 i r s hi hs
    rw[Yk hz,Rat.add_zero]at this;exact this) j
   by_cases e:j<n
   ·rw[List.getD_eq_getElem?_getD,List.getElem?_take_of_lt e,<-List.getD_eq_getElem?_getD]at h4
    exact hj h4
   ·exact hj (Pa j (by omega))
  ·omega
def Y4 (w c:Nat):List Rat:=(List.range w).map λ q=>if q=c then -1 else 0
theorem mY {r:List Rat} {w c:Nat} (hr:r.length=w) (hc:c<w):A5 r (Y4 w c) = - r.getD c 0:=by
 rw[N7 r _ w (by omega),WI w hc λ j hj hn=>by rw[Y4,PY,if_pos hj,if_neg hn,Rat.mul_zero],Y4,PY,if_pos hc,if_pos rfl];grind
theorem lP {m a b:List (List Rat)} {w n c:Nat} {y:List Rat} (hk : ∀ X,EJ m X↔EJ (DI a b) X) (hl:a.length=b.length) (ha : ∀ r∈a,r.length=n) (hb : ∀ r∈b,r.length=w) (hc:c<w) (hy:y.length=n) (hm : ∀ r∈m,r.length=n+w) (hs : ∀ r∈m,A5 (r.take n) y=r.getD (n+c) 0) {i:Nat} {r s:List Rat} (hr:a[i]? = some r) (hi:b[i]? = some s):A5 r y=s.getD c 0:=by
 have h1:EJ m (y++Y4 w c):=λ q hq=>by
  have zl:=hm q hq;have e:q=q.take n++q.drop n:=(List.take_append_drop n q).symm;rw[e,YA _ _ _ _ (by rw[List.length_take,hy];omega),hs q hq,mY (by rw[List.length_drop];omega) hc];have:(q.drop n).getD c 0=q.getD (n+c) 0:=by rw[List.getD_eq_getElem?_getD,List.getElem?_drop,<-List.getD_eq_getElem?_getD]
  rw[this];grind
 have h2:=(eE hl ha y _ hy).1 ((hk _).1 h1) i r s hr hi;rw[mY (hb s (zM hi)) hc]at h2;grind
def P6 (y:Nat->List Rat) (n:Nat):List (List Rat):=(List.range n).map λ i:Nat=>(List.range n).map λ c=>(y c).getD i 0
theorem Aff {y:Nat->List Rat} {n c:Nat} (hy:(y c).length=n) (hc:c<n):DF (P6 y n) c=y c:=by
 refine List.ext_getElem? λ i => ?_
 simp only[DF,P6,List.map_map,List.getElem?_map];by_cases h:i<n
 ·rw[List.getElem?_range h,Option.map_some,Function.comp_apply,PY,if_pos hc,List.getD_eq_getElem?_getD,zE (by omega)];rfl
 ·rw[List.getElem?_eq_none (by simp;omega),List.getElem?_eq_none (by omega)];rfl
theorem QG (n i j:Nat):(FR n i).getD j 0=if j<n then (if j=i then 1 else 0) else 0:=by
 rw[FR,PY];by_cases h:j<n
 ·rw[if_pos h,if_pos h]
  by_cases e:j=i
  ·rw[if_pos e,if_pos (by omega)]
  ·rw[if_neg e,if_neg (by omega)]
 ·rw[if_neg h,if_neg h]
theorem AeB {a:List (List Rat)} {n:Nat} {y:Nat->List Rat} (ha:a.length=n) (hy : ∀ c,c<n->(y c).length=n) (h : ∀ (c i:Nat) (r:List Rat),c<n->a[i]? = some r->A5 r (y c)=if c=i then 1 else 0):DE a (P6 y n) n=DK n:=by
 refine List.ext_getElem? λ i => ?_
 simp only[DE,DK,List.getElem?_map];by_cases hi:i<n
 ·obtain ⟨r,hr⟩ : ∃ r,a[i]? = some r:=⟨_,zE (by omega)⟩
  rw[hr,List.getElem?_range hi,Option.map_some,Option.map_some];congr 1;refine List.map_congr_left λ c hc => ?_
  have x7:=List.mem_range.1 hc;rw[Aff (hy c x7) x7,h c i r x7 hr];by_cases e:c=i
  ·rw[if_pos e,if_pos (by omega)]
  ·rw[if_neg e,if_neg (by omega)]
 ·rw[List.getElem?_eq_none (by omega),List.getElem?_eq_none (by simp;omega)];rfl
theorem vN {a:List (List Rat)} {n:Nat} (ha : ∀ r∈a,r.length=n) {X Y:List Rat} (hX:X.length=n) (hY:Y.length=n) (h:HR a X=HR a Y) (ic:NS n a):X=Y:=by
 have h1:=ic ((List.range n).map λ j=>X.getD j 0-Y.getD j 0) (by simp) (λ r hr=>by
  obtain ⟨i,hi⟩:=List.getElem?_of_mem hr;have e:A5 r X=A5 r Y:=by
   have:=congrArg (·[i]?) h
   simp only[HR,List.getElem?_map,hi,Option.map_some,Option.some.injEq]at this;exact this
  have hs : ∀ k,DZ (λ j=>r.getD j 0*((List.range n).map λ j=>X.getD j 0-Y.getD j 0).getD j 0) k=DZ (λ j=>r.getD j 0*X.getD j 0) k-DZ (λ j=>r.getD j 0*Y.getD j 0) k:=by
   intro k;induction k with
   | zero=>simp only[DZ];grind
   | succ k ih =>
    rw[DZ,DZ,DZ,ih,PY];by_cases e:k<n
    ·rw[if_pos e];grind
    ·rw[if_neg e,List.getD_eq_getElem?_getD,List.getD_eq_getElem?_getD,List.getD_eq_getElem?_getD,List.getElem?_eq_none (show X.length<=k by omega),List.getElem?_eq_none (show Y.length<=k by omega)]
     simp only[Option.getD_none];grind
  rw[N7 r _ r.length (Nat.le_refl _),hs,<-N7 r X _ (Nat.le_refl _),<-N7 r Y _ (Nat.le_refl _),e];grind)
 refine List.ext_getElem? λ j => ?_
 by_cases e:j<n
 ·have:=h1 j
  rw[PY,if_pos e]at this;have h2:X.getD j 0=Y.getD j 0:=by grind
  rw[List.getD_eq_getElem?_getD,List.getD_eq_getElem?_getD,zE (by omega),zE (by omega)]at h2;rw[zE (by omega),zE (by omega)];exact congrArg some h2
 ·rw[List.getElem?_eq_none (by omega),List.getElem?_eq_none (by omega)]
theorem rV {a:List (List Rat)} {n i:Nat} (ha : ∀ r∈a,r.length=n) (hi:i<n):HR a (FR n i)=DF a i:=by
 refine List.map_congr_left λ r hr => ?_
 rw[N7 r _ n (by rw[ha r hr];exact Nat.le_refl n),WI n hi λ j hj hn=>by rw[QG,if_pos hj,if_neg hn,Rat.mul_zero],QG,if_pos hi,if_pos rfl,Rat.mul_one]
theorem rH {a b:List (List Rat)} {n:Nat} (ha:Sq n a) (hb:Sq n b) (h : ∀ c,c<n->DF a c=DF b c):a=b:=by
 refine List.ext_getElem? λ i => ?_
 by_cases hi:i<n
 ·obtain ⟨r,hr⟩ : ∃ r,a[i]? = some r:=⟨_,zE (by rw[ha.l];exact hi)⟩
  obtain ⟨s,hs⟩ : ∃ s,b[i]? = some s:=⟨_,zE (by rw[hb.l];exact hi)⟩;rw[hr,hs];congr 1;refine List.ext_getElem? λ j => ?_
  have h1:=ha.at hr;have h2:=hb.at hs;by_cases hj:j<n
  ·have:=congrArg (·[i]?) (h j hj)
   simp only[DF,List.getElem?_map,hr,hs,Option.map_some,Option.some.injEq]at this;rw[List.getD_eq_getElem?_getD,List.getD_eq_getElem?_getD,zE (by omega),zE (by omega)]at this;rw[zE (by omega),zE (by omega)];exact congrArg some this
  ·rw[List.getElem?_eq_none (by omega),List.getElem?_eq_none (by omega)]
 ·rw[List.getElem?_eq_none (by rw[ha.l];omega),List.getElem?_eq_none (by rw[hb.l];omega)]
theorem Aet {a v:List (List Rat)} {n:Nat} (ha:Sq n a) (hv:Sq n v) (ic:NS n a) (h:DE a v n=DK n):DE v a n=DK n:=by
 refine rH (Sq.mul hv.l a) (Sq.id n) λ c hc => ?_
 have hm:=Sq.mul hv.l a (n:=n);have hu:(FR n c).length=n:=by simp [FR]
 rw[<-rV hm.r hc,<-rV (Sq.id n).r hc,fS hu];refine vN ha.r (by rw[rT,hm.l]) hu ?_ ic;rw[rU v a _ ha.r,<-rU a v _ hv.r,h,fS (by rw[rT,ha.l])]
theorem Bt.ofInt {k:Nat} {z:Int} (h:z.natAbs<=2^k):Bt k ((z:Int):Rat):=⟨by rw[Rat.num_intCast];exact h,by rw[Rat.den_intCast];exact Nat.one_le_two_pow⟩
end Go.g6

namespace Go.g6
theorem Bt.Nx {k:Nat} {y:Rat} (h:Bt k y):Bt k y⁻¹:=by
 rw[Rat.inv_def];rcases Int.natAbs_eq y.num with e|e
 ·rw[e,Rat.divInt_ofNat]
  exact Bt.mk (by simpa using h.2) h.1
 ·rw[e,Rat.divInt_neg',Rat.divInt_ofNat]
  exact Bt.mk (by simpa using h.2) h.1
theorem Bt.vz {k l:Nat} {x y:Rat} (hx:Bt k x) (hy:Bt l y):Bt (k+l) (x/y):=by
 rw[Rat.div_def];exact hx.mul hy.Nx
theorem Bt.Ad {k:Nat} {x:Rat} (h:Bt k x):Bt k (-x):=⟨by rw[Rat.neg_num,Int.natAbs_neg];exact h.1,by rw[Rat.neg_den];exact h.2⟩
theorem Bt.rz {k l:Nat} {x y:Rat} (hx:Bt k x) (hy:Bt l y):Bt (k+l+1) (x-y):=by
 rw[Rat.sub_eq_add_neg];exact hx.add hy.Ad
theorem Bt.Ez {k:Nat} {x p y f l:Rat} (hx:Bt k x) (hp:Bt k p) (hy:Bt k y) (hf:Bt k f) (hl:Bt k l):Bt (5*k+1) ((x*p-y*f)/l) :=
 (((hx.mul hp).rz (hy.mul hf)).vz hl).le (by omega)
theorem lQ {p f l:Rat} : ∀ {r t:List Rat} {z:Rat},z∈comb p f l r t -> ∃ x∈r,∃ y∈t,z=(x*p-y*f)/l
 | [],_,z,h=>by simp [comb]at h
 | _::_,[],z,h=>by simp [comb]at h
 | x::r,y::t,z,h=>by
  simp only[comb,List.zipWith_cons_cons,List.mem_cons]at h;rcases h with h|h
  ·exact ⟨x,List.mem_cons_self,y,List.mem_cons_self,h⟩
  ·obtain ⟨a,ha,b,hb,e⟩:=lQ (r:=r) (t:=t) h
   exact ⟨a,List.mem_cons_of_mem _ ha,b,List.mem_cons_of_mem _ hb,e⟩
theorem Bs.comb {k:Nat} {r t:List Rat} {p f l:Rat} (hr:Bs k r) (ht:Bs k t) (hp:Bt k p) (hf:Bt k f) (hl:Bt k l):Bs (5*k+1) (comb p f l r t):=λ z hz=>by
 obtain ⟨x,hx,y,hy,rfl⟩:=lQ hz;exact Bt.Ez (hr x hx) hp (ht y hy) hf hl
theorem UZ {p f l:Rat} : ∀ {r t:List Rat},r.length=t.length -> ∀ j,(comb p f l r t).getD j 0=(r.getD j 0*p-t.getD j 0*f)/l
 | [],[],_,j=>by simp [comb,Rat.div_def,Rat.zero_mul,Rat.sub_eq_add_neg,Rat.neg_zero,Rat.add_zero]
 | x::r,y::t,_,0=>by simp [comb]
 | x::r,y::t,h,j+1=>by
  have:=UZ (p:=p) (f:=f) (l:=l) (r:=r) (t:=t) (by simpa using h) j
  simp only[comb]at this;simpa [comb] using this
def RZ (s x:Rat):Rat:=s*(((s*x).den:Nat):Rat)
def AZ (r:List Rat):Rat:=r.foldl RZ 1
theorem WA (r:List Rat) (x:Rat):AZ (r++[x])=RZ (AZ r) x:=by rw[AZ,List.foldl_append];rfl
theorem Age {s x:Rat} (h:s≠0):RZ s x≠0:=by
 intro e;rcases Rat.mul_eq_zero.1 e with e|e
 ·exact h e
 ·have:=(s*x).den_pos
  have:((s*x).den:Rat)=((0:Nat):Rat):=e
  have:=Rat.natCast_inj.1 this
  omega
theorem V9 (r:List Rat):AZ r≠0:=by
 have : ∀ (r:List Rat) (s:Rat),s≠0->r.foldl RZ s≠0:=by
  intro r;induction r with
  | nil=>intro s h;exact h
  | cons x r ih=>intro s h;exact ih _ (Age h)
 exact this r 1 (by decide)
theorem Agd {a k:Nat} {s x:Rat} (hs:Bt a s) (hx:Bt k x):Bt (2*a+k) (RZ s x):=by
 have h1:=(hs.mul hx).2;have h2:Bt (a+k) (((s*x).den:Nat):Rat):=by
  have:=Bt.ofInt (k:=a+k) (z:=(((s*x).den:Nat):Int)) (by simpa using h1)
  rwa [Rat.intCast_natCast]at this
 exact (hs.mul h2).le (by omega)
theorem V8 {k:Nat} (hk:1<=k) : ∀ {r:List Rat},Bs k r->Bt (3^r.length*k-k) (AZ r):=by
 have : ∀ (r:List Rat) (s:Rat) (i:Nat),Bs k r->Bt (3^i*k-k) s->Bt (3^(i+r.length)*k-k) (r.foldl RZ s):=by
  intro r;induction r with
  | nil=>intro s i _ h;exact h
  | cons x r ih =>
   intro s i hr h;have h1:=Agd h (hr x List.mem_cons_self);have h2:=ih (RZ s x) (i+1) (λ y hy=>hr y (List.mem_cons_of_mem _ hy)) (h1.le (by
    have:1<=3^i:=Nat.one_le_pow _ _ (by omega)
    have e:3^(i+1)*k=3*(3^i*k):=by rw[Nat.pow_succ];rw[Nat.mul_comm (3^i) 3,Nat.mul_assoc]
    have h3:k<=3^i*k:=Nat.le_mul_of_pos_left k (by omega);rw[e];omega))
   rw[List.length_cons,show i+(r.length+1)=i+1+r.length by omega];exact h2
 intro r hr;have:=this r 1 0 hr (Bt.one _)
 rwa [Nat.zero_add]at this
def whole (m:List (List Rat)):List (List Rat):=m.map λ r=>r.map (· * AZ r)
theorem iU (m:List (List Rat)):QU (whole m) m:=⟨by simp [whole],λ i r hr=>⟨AZ r,V9 r,by simp [whole,hr]⟩⟩
theorem T6 {m:List (List Rat)} {W:Nat} (h : ∀ r∈m,r.length=W) : ∀ r∈whole m,r.length=W:=λ r hr=>by
 obtain ⟨q,hq,rfl⟩:=List.mem_map.1 hr;simpa using h q hq
theorem SH {m:List (List Rat)} {W k:Nat} (hk:1<=k) (h : ∀ r∈m,r.length=W) (hb:Ms k m):Ms (3^W*k) (whole m):=λ r hr=>by
 obtain ⟨q,hq,rfl⟩:=List.mem_map.1 hr;have h1:=V8 hk (hb q hq);rw[h q hq]at h1;intro x hx;obtain ⟨y,hy,rfl⟩:=List.mem_map.1 hx;have h2:k<=3^W*k:=Nat.le_mul_of_pos_left k (Nat.pow_pos (by omega));exact ((hb q hq y hy).mul h1).le (by omega)
theorem SI {m:List (List Rat)} {W k:Nat} (hk:1<=k) (h : ∀ r∈m,r.length=W) (hb:Ms k m) : ∀ r∈m,∀ j,Bt (3^W*k) (AZ (r.take j)):=λ r hr j=>(V8 hk ((hb r hr).take j)).le (by
 have:3^(r.take j).length<=3^W:=Nat.pow_le_pow_right (by omega) (by rw[List.length_take,h r hr];omega)
 have:=zR k this
 omega)
theorem SG (k W:Nat):k<=3^W*k:=Nat.le_mul_of_pos_left k (Nat.pow_pos (by omega))
def FE:List (List Rat)->List Nat->Rat
 | r::m,p::P=>r.getD p 0*FE m P
 | _,_=>1
theorem TQ : ∀ m,FE m []=1
 | []=>rfl
 | _::_=>rfl
theorem ZJ : ∀ (m:List (List Rat)) (P:List Nat) (i:Nat) (x:List Rat),P.length<=i->FE (m.set i x) P=FE m P
 | [],_,_,_,_=>rfl
 | _::_,[],_,_,_=>by rw[TQ,TQ]
 | r::m,p::P,0,x,h=>by simp at h
 | r::m,p::P,i+1,x,h=>by
  rw[List.set_cons_succ,FE,FE,ZJ m P i x (by simpa using h)]
theorem sW (c:Nat) (t:List Rat) : ∀ (m:List (List Rat)) (P:List Nat),m[P.length]? = some t->FE m (P++[c])=FE m P*t.getD c 0
 | [],_,h=>by simp at h
 | r::m,[],h=>by
  obtain rfl:r=t:=by simpa using h
  rw[List.nil_append,FE,TQ,TQ,Rat.mul_one,Rat.one_mul]
 | r::m,p::P,h=>by
  rw[List.cons_append,FE,FE,sW c t m P (by simpa using h),Rat.mul_assoc]
theorem gI : ∀ (m:List (List Rat)) (P:List Nat),(∀ (i p:Nat) (r:List Rat),P[i]? = some p->m[i]? = some r->r.getD p 0≠0)->FE m P≠0
 | [],_,_=>by simp only[FE];decide
 | _::_,[],_=>by rw[TQ];decide
 | r::m,p::P,h=>by
  intro e;rw[FE]at e;rcases Rat.mul_eq_zero.1 e with e|e
  ·exact h 0 p r rfl rfl e
  ·exact gI m P (λ i q s h1 h2=>h (i+1) q s (by simpa using h1) (by simpa using h2)) e
structure EQ (n W:Nat) (u:Rat) (D:List (List Rat)->Rat):Prop where
 sw : ∀ (m:List (List Rat)) (i k:Nat) (a b:List Rat),m.length=n->(∀ r∈m,r.length=W)->m[i]? = some a->m[k]? = some b->i≠k->D ((m.set i b).set k a) = -D m
 ad : ∀ (m:List (List Rat)) (i k:Nat) (r t:List Rat) (p f l:Rat),m.length=n->(∀ r∈m,r.length=W)->m[i]? = some r->m[k]? = some t->i≠k->l≠0->D (m.set i (comb p f l r t))=D m*(p/l)
 sc : ∀ (m:List (List Rat)) (i:Nat) (r:List Rat) (s:Rat),m.length=n->(∀ r∈m,r.length=W)->m[i]? = some r->D (m.set i (r.map (· * s)))=D m*s
 tr : ∀ m:List (List Rat),m.length=n->(∀ r∈m,r.length=W)->QW (CX m) n->D m=FE m (List.range n)*u
def KZ (b:Bool):Rat:=bif b then -1 else 1
theorem AgW (b:Bool):KZ (!b) = -KZ b:=by cases b<;>decide
theorem AgX (b:Bool):KZ b*KZ b=1:=by
 cases b
 ·exact Rat.mul_one 1
 ·show (-1:Rat) * -1=1
  grind
theorem sK : ∀ n:Nat,(1:Rat)^n=1
 | 0=>Rat.pow_zero 1
 | n+1=>by rw[Rat.pow_succ,sK n,Rat.mul_one]
theorem gJ {l:Rat} (h:l≠0) : ∀ n:Nat,l^n≠0
 | 0=>by rw[Rat.pow_zero];decide
 | n+1=>by
  rw[Rat.pow_succ];intro e;rcases Rat.mul_eq_zero.1 e with e|e
  ·exact gJ h n e
  ·exact h e
theorem Y2 {a b c:Rat} (h:c≠0) (e:a*c=b*c):a=b:=by
 have h1:=Rat.mul_inv_cancel c h;have:a*c*c⁻¹=b*c*c⁻¹:=by rw[e]
 rwa [Rat.mul_assoc,Rat.mul_assoc,h1,Rat.mul_one,Rat.mul_one]at this
theorem uE {α:Type} {l:List α} {i:Nat} {x:α} (h:l[i]? = some x):l.set i x=l:=by
 obtain ⟨h1,rfl⟩:=zS h;exact List.set_getElem_self h1
def KV (l:List Rat):Rat:=l.foldl (· * ·) 1
theorem Afx (l:List Rat) (x:Rat):KV (l++[x])=KV l*x:=by rw[KV,List.foldl_append];rfl
theorem sZ {l:List Rat} {i:Nat} {x:Rat} (h:l[i]? = some x):KV (l.take (i+1))=KV (l.take i)*x:=by
 rw[List.take_add_one,h];exact Afx _ _
theorem Afw {l:List Rat} (h : ∀ x∈l,x≠0):KV l≠0:=by
 have : ∀ (l:List Rat) (s:Rat),s≠0->(∀ x∈l,x≠0)->l.foldl (· * ·) s≠0:=by
  intro l;induction l with
  | nil=>intro s h _;exact h
  | cons x l ih =>
   intro s hs h;refine ih _ (λ e => ?_) λ y hy=>h y (List.mem_cons_of_mem _ hy)
   rcases Rat.mul_eq_zero.1 e with e|e
   ·exact hs e
   ·exact h x List.mem_cons_self e
 exact this l 1 (by decide) h
theorem Wi {n W:Nat} {u:Rat} {D:List (List Rat)->Rat} (hD:EQ n W u D) {a:List (List Rat)} (hl:a.length=n) (hw : ∀ r∈a,r.length=W):D (whole a)=D a*KV (a.map AZ):=by
 have zt:(whole a).length=n:=by rw[whole,List.length_map];exact hl
 have Np:=T6 hw;have step : ∀ k,k<=n->D ((whole a).take k++a.drop k)=D a*KV ((a.map AZ).take k):=by
  intro k;induction k with
  | zero =>
   intro _;rw[List.take_zero,List.take_zero,List.nil_append,List.drop_zero];exact (Rat.mul_one _).symm
  | succ k ih =>
   intro hk;obtain ⟨r,hr⟩ : ∃ r,a[k]? = some r:=⟨_,zE (by omega)⟩;have hq:(whole a)[k]? = some (r.map (· * AZ r)):=by rw[whole,List.getElem?_map,hr];rfl
   have hs:(a.map AZ)[k]? = some (AZ r):=by rw[List.getElem?_map,hr];rfl
   have ht:((whole a).take k).length=k:=by rw[List.length_take];omega
   have fm:((whole a).take k++a.drop k)[k]? = some r:=by
    rw[List.getElem?_append_right (by omega),ht,Nat.sub_self,List.getElem?_drop];exact hr
   have m4:((whole a).take k++a.drop k).set k (r.map (· * AZ r))=(whole a).take (k+1)++a.drop (k+1):=by
    rw[List.set_append_right _ _ (by omega),ht,Nat.sub_self,List.drop_eq_getElem_cons (show k<a.length by omega),List.set_cons_zero,List.take_add_one,hq,List.append_assoc];rfl
   rw[sZ hs,<-m4,hD.sc _ k r (AZ r) (by rw[List.length_append,ht,List.length_drop];omega) (λ q hq => ?_) fm,ih (by omega),Rat.mul_assoc];rcases List.mem_append.1 hq with h|h
   ·exact Np q (List.mem_of_mem_take h)
   ·exact hw q (List.mem_of_mem_drop h)
 have:=step n (Nat.le_refl n)
 rw[zT (by omega),List.drop_of_length_le (by omega),List.append_nil,zT (by rw[List.length_map];omega)]at this;exact this
structure EN (m0:List (List Rat)) (K W o6:Nat) (m:List (List Rat)) (P:List Nat) (c:Nat) (odd:Bool) (l:Rat):Prop where
 o5:C8 m W c P
 len:m.length=m0.length
 cc:c<=o6
 l0:l≠0
 kz : ∀ X,EJ m X↔EJ m0 X
 ms:Ms (6^P.length*K) m
 bl:Bt (6^P.length*K) l
 dt : ∀ (u:Rat) (D:List (List Rat)->Rat),EQ m0.length W u D->D m*l=KZ odd*D m0*FE m P*l^(m0.length-P.length)
theorem EN.start {m0:List (List Rat)} {K W o6:Nat} (h : ∀ r∈m0,r.length=W) (hb:Ms K m0):EN m0 K W o6 m0 [] 0 false 1 :=
 ⟨C8.start h,rfl,Nat.zero_le _,by decide,λ_=>Iff.rfl,by simpa using hb,Bt.one _,λ u D _=>by rw[TQ,sK,Rat.mul_one,Rat.mul_one,Rat.mul_one];exact (Rat.one_mul _).symm⟩
section
variable {m0 m:List (List Rat)} {K W o6 c:Nat} {P:List Nat} {odd:Bool} {l:Rat}
theorem EN.skip (h:EN m0 K W o6 m P c odd l) (hc:c<o6) (hz : ∀ (i:Nat) (r:List Rat),P.length<=i->m[i]? = some r->r.getD c 0=0):EN m0 K W o6 m P (c+1) odd l :=
 ⟨h.o5.skip hz,h.len,hc,h.l0,h.kz,h.ms,h.bl,h.dt⟩
theorem EN.swap {i k:Nat} {a b:List Rat} (h:EN m0 K W o6 m P c odd l) (hi:m[i]? = some a) (hk:m[k]? = some b) (h1:P.length<=i) (h2:P.length<=k) (hn:i≠k):EN m0 K W o6 ((m.set i b).set k a) P c (!odd) l :=
 ⟨h.o5.swap hi hk h1 h2,by simpa using h.len,h.cc,h.l0,λ X=>(qN hi hk X).trans (h.kz X),λ r hr=>by
  rcases OB hr with rfl|⟨j,_,hj⟩
  ·exact h.ms.at hi
  ·rcases OB (zM hj) with rfl|⟨q,_,hq⟩
   ·exact h.ms.at hk
   ·exact h.ms.at hq,h.bl,λ u D hD=>by
  rw[hD.sw m i k a b h.len h.o5.lr hi hk hn,AgW,ZJ _ _ _ _ h2,ZJ _ _ _ _ h1,Rat.neg_mul,h.dt u D hD,Rat.neg_mul,Rat.neg_mul,Rat.neg_mul]⟩
structure HX (m0:List (List Rat)) (K W o6:Nat) (P:List Nat) (c:Nat) (odd:Bool) (l:Rat) (t:List Rat) (m:List (List Rat)) (i:Nat):Prop where
 o5:C8 m W c P
 len:m.length=m0.length
 cc:c<o6
 l0:l≠0
 kz : ∀ X,EJ m X↔EJ m0 X
 ht:m[P.length]? = some t
 nt:t.getD c 0≠0
 lo : ∀ q r,q<i->m[q]? = some r->Bs (5*(6^P.length*K)+1) r
 hi : ∀ q r,i<=q->m[q]? = some r->Bs (6^P.length*K) r
 bt:Bs (6^P.length*K) t
 bl:Bt (6^P.length*K) l
 z : ∀ q r,P.length<q->q<i->m[q]? = some r->r.getD c 0=0
 dt : ∀ (u:Rat) (D:List (List Rat)->Rat),EQ m0.length W u D->D m*l*l^(i-P.length-1)=KZ odd*D m0*FE m P*l^(m0.length-P.length)*t.getD c 0^(i-P.length-1)
theorem EN.Oh {t:List Rat} (h:EN m0 K W o6 m P c odd l) (hc:c<o6) (ht:m[P.length]? = some t) (hn:t.getD c 0≠0):HX m0 K W o6 P c odd l t m (P.length+1) :=
 ⟨h.o5,h.len,hc,h.l0,h.kz,ht,hn,λ q r _ hr=>(h.ms.at hr).le (by omega),λ q r _ hr=>h.ms.at hr,h.ms.at ht,h.bl,λ q r h1 h2 _=>absurd h1 (by omega),λ u D hD=>by
  rw[show P.length+1-P.length-1=0 by omega,Rat.pow_zero,Rat.pow_zero,Rat.mul_one,Rat.mul_one];exact h.dt u D hD⟩
theorem HX.step {t r:List Rat} {i:Nat} (h:HX m0 K W o6 P c odd l t m i) (hi:P.length<i) (hr:m[i]? = some r):HX m0 K W o6 P c odd l t (m.set i (comb (t.getD c 0) (r.getD c 0) l r t)) (i+1):=by
 have au:=(zS hr).1;have hl:r.length=t.length:=by rw[h.o5.lr r (zM hr),h.o5.lr t (zM h.ht)]
 have hg : ∀ j,(comb (t.getD c 0) (r.getD c 0) l r t).getD j 0=(r.getD j 0*t.getD c 0-t.getD j 0*r.getD c 0)/l:=UZ hl;have fm : ∀ (q:Nat) (x:List Rat),(m.set i (comb (t.getD c 0) (r.getD c 0) l r t))[q]? = some x->(q=i/\x=comb (t.getD c 0) (r.getD c 0) l r t)\/(q≠i/\m[q]? = some x):=λ q x hx=>by
  rw[List.getElem?_set]at hx;by_cases e:i=q
  ·rw[if_pos e,if_pos au]at hx
   exact Or.inl ⟨e.symm,(Option.some.inj hx).symm⟩
  ·rw[if_neg e]at hx
   exact Or.inr ⟨Ne.symm e,hx⟩
 have Fu:=h.hi i r (Nat.le_refl i) hr;have htc:Bt (6^P.length*K) (t.getD c 0):=by
  have:Ms (6^P.length*K) [t]:=λ x hx=>by obtain rfl:=List.mem_singleton.1 hx;exact h.bt
  exact this.getD 0 c
 have Ec:Bt (6^P.length*K) (r.getD c 0):=by
  have:Ms (6^P.length*K) [r]:=λ x hx=>by obtain rfl:=List.mem_singleton.1 hx;exact Fu
  exact this.getD 0 c
 have ep : ∀ j,j<=c->(comb (t.getD c 0) (r.getD c 0) l r t).getD j 0=0:=λ j hj=>by
  rw[hg];by_cases e:j=c
  ·subst e;rw[Rat.div_def];grind
  ·rw[h.o5.zr i r (by omega) hr j (by omega),h.o5.zr P.length t (Nat.le_refl _) h.ht j (by omega),Rat.div_def];grind
 refine ⟨⟨λ x hx => ?_,by simpa using h.o5.pl,h.o5.inc,h.o5.pb,λ q p x hp hx => ?_,λ q x hq hx j hj => ?_⟩,by simpa using h.len,h.cc,h.l0,λ X=>(qO hr h.ht (by omega) hl h.nt h.l0 X).trans (h.kz X),?_,h.nt,λ q x hq hx => ?_,λ q x hq hx => ?_,h.bt,h.bl,λ q x h1 h2 hx => ?_,λ u D hD => ?_⟩
 ·rcases OB hx with rfl|⟨j,_,hj⟩
  ·rw[U0 hl];exact h.o5.lr r (zM hr)
  ·exact h.o5.lr x (zM hj)
 ·have Az:=(zS hp).1
  rcases fm q x hx with ⟨rfl,_⟩|⟨_,hx⟩
  ·omega
  ·exact h.o5.nz q p x hp hx
 ·rcases fm q x hx with ⟨rfl,rfl⟩|⟨_,hx⟩
  ·exact ep j (by omega)
  ·exact h.o5.zr q x hq hx j hj
 ·rw[List.getElem?_set,if_neg (by omega)];exact h.ht
 ·rcases fm q x hx with ⟨rfl,rfl⟩|⟨n9,hx⟩
  ·exact Fu.comb h.bt htc Ec h.bl
  ·exact h.lo q x (by omega) hx
 ·rcases fm q x hx with ⟨rfl,rfl⟩|⟨n9,hx⟩
  ·omega
  ·exact h.hi q x (by omega) hx
 ·rcases fm q x hx with ⟨rfl,rfl⟩|⟨n9,hx⟩
  ·exact ep c (Nat.le_refl c)
  ·exact h.z q x h1 (by omega) hx
 ·have hd:=h.dt u D hD
  have Gd:=Rat.div_mul_cancel h.l0 (a:=t.getD c 0);rw[hD.ad m i P.length r t _ _ l h.len h.o5.lr hr h.ht (by omega) h.l0,ZJ _ _ _ _ (by omega),show i+1-P.length-1=(i-P.length-1)+1 by omega,Rat.pow_succ,Rat.pow_succ];rw[show D m*(t.getD c 0/l)*l*(l^(i-P.length-1)*l)=D m*l*l^(i-P.length-1)*(t.getD c 0/l*l) by grind,hd,Gd,Rat.mul_assoc]
theorem ZL (hK:1<=K) (p:Nat):5*(6^p*K)+1<=6^(p+1)*K:=by
 have h1:1<=6^p*K:=Nat.mul_pos (Nat.pow_pos (by omega)) hK;have e:6^(p+1)*K=6*(6^p*K):=by rw[Nat.pow_succ,Nat.mul_comm (6^p) 6,Nat.mul_assoc]
 omega
theorem JX {p n B:Nat} (h:6^n*K<=B) (hp:p<=n):6^p*K<=B :=
 Nat.le_trans (zR K (Nat.pow_le_pow_right (by omega) hp)) h
theorem HX.done {t:List Rat} {i:Nat} (hK:1<=K) (h:HX m0 K W o6 P c odd l t m i) (hi:i=m.length):EN m0 K W o6 m (P++[c]) (c+1) odd (t.getD c 0):=by
 have e:(P++[c]).length=P.length+1:=by simp
 have h6:=ZL hK P.length;refine ⟨h.o5.tk h.ht h.nt λ q r hq hr=>h.z q r hq (hi ▸ (zS hr).1) hr,h.len,h.cc,h.nt,h.kz,?_,?_,λ u D hD => ?_⟩
 ·rw[e]
  intro r hr;obtain ⟨q,hq⟩:=List.getElem?_of_mem hr;exact (h.lo q r (hi ▸ (zS hq).1) hq).le h6
 ·rw[e]
  have:Ms (6^P.length*K) [t]:=λ x hx=>by obtain rfl:=List.mem_singleton.1 hx;exact h.bt
  exact (this.getD 0 c).le (by omega)
 ·have hd:=h.dt u D hD
  have xf:=(zS h.ht).1;have hlen:=h.len;rw[sW c t m P h.ht,e];rw[hi,hlen,show m0.length-P.length=(m0.length-P.length-1)+1 by omega,Rat.pow_succ,Nat.add_sub_cancel]at hd;rw[show m0.length-(P.length+1)=m0.length-P.length-1 by omega];have hp:=gJ h.l0 (m0.length-P.length-1);generalize l^(m0.length-P.length-1)=x at *;generalize t.getD c 0=p at *;generalize p^(m0.length-P.length-1)=y at *;have h0:=h.l0;have h1:D m=KZ odd*D m0*FE m P*y:=Y2 (c:=l*x) (λ e=>by
   rcases Rat.mul_eq_zero.1 e with e|e
   ·exact h0 e
   ·exact hp e) (by grind)
  rw[h1];grind
theorem EN.vy {n:Nat} {u:Rat} {D:List (List Rat)->Rat} (h:EN m0 K n n m P c odd l) (bb:m0.length=n) (hP:P.length=n) (hD:EQ n n u D):u*l=KZ odd*D m0:=by
 subst bb;have hc:c=m0.length:=by have:=h.o5.le;have:=h.cc;omega
 have hd:=h.dt u D hD;have hlen:=h.len;subst hc;have Ak:P=List.range m0.length:=by
  refine List.ext_getElem? λ i => ?_
  by_cases hi:i<m0.length
  ·obtain ⟨q,hq⟩ : ∃ q,P[i]? = some q:=⟨_,zE (by omega)⟩
   rw[hq,List.getElem?_range hi,h.o5.diag hP i q hq]
  ·rw[List.getElem?_eq_none (by omega),List.getElem?_eq_none (by simp;omega)]
 have qu:FE m P≠0:=gI m P λ i p r h1 h2=>(h.o5.nz i p r h1 h2).1
 have ht:=hD.tr m hlen h.o5.lr (h.o5.Hz λ i hi=>by rw[Ak,List.getElem?_range hi]);rw[hP,Nat.sub_self,Rat.pow_zero,Rat.mul_one,ht,<-Ak]at hd;exact Y2 qu (by grind)
theorem EN.Bu {n:Nat} {u:Rat} {D:List (List Rat)->Rat} (h:EN m0 K n n m P c odd l) (bb:m0.length=n) (hP:P.length<n) (z9:n<=c\/n<=P.length) (hD:EQ n n u D):D m0=0:=by
 subst bb;have hc:c=m0.length:=by have:=h.cc;omega
 have hd:=h.dt u D hD;have hlen:=h.len;subst hc;have qu:FE m P≠0:=gI m P λ i p r h1 h2=>(h.o5.nz i p r h1 h2).1
 obtain ⟨r,hr⟩ : ∃ r,m[P.length]? = some r:=⟨_,zE (by omega)⟩;have hz:r.map (· * 0)=r:=by
  refine List.ext_getElem? λ j => ?_
  rw[List.getElem?_map];by_cases hj:j<r.length
  ·have h1:=h.o5.zr P.length r (Nat.le_refl _) hr j (by rw[h.o5.lr r (zM hr)]at hj;exact hj)
   rw[List.getD_eq_getElem?_getD,zE hj,Option.getD_some]at h1;rw[zE hj,Option.map_some,Rat.mul_zero,h1]
  ·rw[List.getElem?_eq_none (by omega)];rfl
 have h1:=hD.sc m P.length r 0 hlen h.o5.lr hr;rw[hz,Rat.mul_zero,uE hr]at h1;rw[h1,Rat.zero_mul]at hd;have h2:=gJ h.l0 (m0.length-P.length);have h3:=AgX odd;have h4:KZ odd*D m0=0:=by
  rcases Rat.mul_eq_zero.1 hd.symm with e|e
  ·rcases Rat.mul_eq_zero.1 e with e|e
   ·exact e
   ·exact absurd e qu
  ·exact absurd e h2
 grind
end
def EW (c:Nat) (l:Rat):List (List Rat)->Nat->List Rat
 | [],_=>[]
 | r::m,i=>(r.getD c 0*l-A5 (r.drop (i+1)) (EW c l m (i+1)))/r.getD i 0::EW c l m (i+1)
theorem OQ (c:Nat) (l:Rat) : ∀ (m:List (List Rat)) (i:Nat),(EW c l m i).length=m.length
 | [],_=>rfl
 | r::m,i=>by rw[EW,List.length_cons,OQ c l m (i+1),List.length_cons]
theorem Yq (r:List Rat) (i:Nat) (h:i<r.length):r.drop i=r.getD i 0::r.drop (i+1):=by
 rw[List.drop_eq_getElem_cons h,List.getD_eq_getElem?_getD,zE h];rfl
theorem kQ (c:Nat) (l:Rat) : ∀ (m:List (List Rat)) (i k:Nat) (r:List Rat),m[k]? = some r->i+k<r.length->r.getD (i+k) 0≠0->A5 (r.drop (i+k)) ((EW c l m i).drop k)=r.getD c 0*l
 | q::m,i,0,r,h,hl,h0=>by
  obtain rfl:q=r:=by simpa using h
  rw[Nat.add_zero]at hl h0 ⊢;rw[Yq q i hl,EW,List.drop_zero,A5];have:=Rat.div_mul_cancel h0 (a:=q.getD c 0*l-A5 (q.drop (i+1)) (EW c l m (i+1)))
  grind
 | q::m,i,k+1,r,h,hl,h0=>by
  rw[EW,List.drop_succ_cons,show i+(k+1)=i+1+k by omega];exact kQ c l m (i+1) k r (by simpa using h) (by omega) (by rw[show i+1+k=i+(k+1) by omega];exact h0)
 | [],_,_,_,h,_,_=>by simp at h
theorem mT : ∀ (i:Nat) (r x:List Rat),(∀ j,j<i->r.getD j 0=0)->A5 r x=A5 (r.drop i) (x.drop i)
 | 0,_,_,_=>rfl
 | i+1,[],x,_=>by simp [A5]
 | i+1,r::rs,[],_=>by rw[PP,List.drop_nil,PP]
 | i+1,r::rs,x::xs,h=>by
  have h0:r=0:=by simpa using h 0 (by omega)
  rw[A5,h0,Rat.zero_mul,Rat.zero_add,List.drop_succ_cons,List.drop_succ_cons];exact mT i rs xs λ j hj=>by simpa using h (j+1) (by omega)
theorem Su {c n:Nat} {l:Rat} {m:List (List Rat)} (hn : ∀ r∈m,n<=r.length) (hm:m.length=n) (ht:QW (CX m) n) (r:List Rat) (hr:r∈m):A5 r (EW c l m 0)=r.getD c 0*l:=by
 obtain ⟨k,hk⟩:=List.getElem?_of_mem hr;have pe:=(zS hk).1;have h1:=ht k (by omega);have h2:=kQ c l m 0 k r hk (by have:=hn r hr;omega) (by rw[Nat.zero_add,<-PK hk];exact h1.1);rw[mT k r _ λ j hj=>by rw[<-PK hk];exact h1.2 j hj,<-h2,Nat.zero_add]
def DU (S n:Nat):Nat->Nat
 | 0=>0
 | t+1=>3*S+n*(S+DU S n t+1)
theorem bU (S n:Nat) : ∀ t,DU S n t<=DU S n (t+1)
 | 0=>Nat.zero_le _
 | t+1=>by
  rw[DU,DU];have:=Nat.mul_le_mul_left n (show S+DU S n t+1<=S+DU S n (t+1)+1 by have:=bU S n t;omega)
  omega
theorem kX (S n:Nat) {t u:Nat} (h:t<=u):DU S n t<=DU S n u:=by
 obtain ⟨d,rfl⟩:=Nat.exists_eq_add_of_le h;induction d with
 | zero=>exact Nat.le_refl _
 | succ d ih=>exact Nat.le_trans (ih (by omega)) (bU S n (t+d))
theorem mX {k l:Nat} {a b:List Rat} (ha:Bs k a) (hb:Bs l b) {n:Nat} (hn:b.length<=n):Bt (n*(k+l+1)) (A5 a b):=by
 rw[KJ];exact (hb.dot ha).le (Nat.le_trans (zR _ hn) (Nat.le_of_eq (by rw[Nat.add_comm l k])))
theorem XL {S n c:Nat} {l:Rat} (hl:Bt S l) : ∀ (m:List (List Rat)) (i:Nat),m.length<=n->Ms S m->Bs (DU S n m.length) (EW c l m i)
 | [],_,_,_=>λ x hx=>by cases hx
 | r::m,i,hn,hm=>by
  have ih:=XL (c:=c) (n:=n) hl m (i+1) (by rw[List.length_cons]at hn;omega) (λ q hq=>hm q (List.mem_cons_of_mem _ hq));have hr:Bs S r:=hm r List.mem_cons_self;have hg : ∀ j,Bt S (r.getD j 0):=λ j=>by
   have:Ms S [r]:=λ x hx=>by obtain rfl:=List.mem_singleton.1 hx;exact hr
   exact this.getD 0 j
  have h1:=mX (k:=S) (a:=r.drop (i+1)) (λ x hx=>hr x (List.mem_of_mem_drop hx)) ih (n:=n-1) (by rw[OQ];rw[List.length_cons]at hn;omega);have h2:=(((hg c).mul hl).rz h1).vz (hg i);rw[List.length_cons];intro x hx;rw[EW]at hx;rcases List.mem_cons.1 hx with rfl|hx
  ·refine h2.le ?_
   rw[DU];obtain ⟨k,rfl⟩ : ∃ k,n=k+1:=⟨n-1,by rw[List.length_cons]at hn;omega⟩;have e:=Nat.succ_mul k (S+DU S (k+1) m.length+1);rw[Nat.succ_eq_add_one]at e;rw[Nat.add_sub_cancel];omega
  ·exact (ih x hx).le (bU S n m.length)
end Go.g6

namespace Go.g6
def sj (f:Rat) (r t:List Rat):List Rat:=List.zipWith (λ x y=>x-f*y) r t
theorem lM {f:Rat} {r t:List Rat} (h:r.length=t.length):(sj f r t).length=r.length:=by simp [sj,h]
theorem Rv {f:Rat} {r t:List Rat} {j:Nat} {x y:Rat} (hx:r[j]? = some x) (hy:t[j]? = some y):(sj f r t)[j]? = some (x-f*y):=by
 simp [sj,List.getElem?_zipWith,hx,hy]
theorem lL {f:Rat} {r t:List Rat} (h:r.length=t.length) (j:Nat):(sj f r t).getD j 0=r.getD j 0-f*t.getD j 0:=by
 rw[List.getD_eq_getElem?_getD,List.getD_eq_getElem?_getD,List.getD_eq_getElem?_getD];cases hx:r[j]? with
 | none =>
  have h1:=List.getElem?_eq_none_iff.1 hx;rw[List.getElem?_eq_none (by rw[lM h];exact h1),List.getElem?_eq_none (l:=t) (by omega)];show (0:Rat)=0-f*0;grind
 | some x =>
  have h1:=(zS hx).1;obtain ⟨y,hy⟩ : ∃ y,t[j]? = some y:=⟨_,zE (by omega)⟩;rw[Rv hx hy,hy];rfl
theorem mG (l:List Rat) (p:Rat) (j:Nat):(l.map (· / p)).getD j 0=l.getD j 0/p:=by
 rw[List.getD_eq_getElem?_getD,List.getD_eq_getElem?_getD,List.getElem?_map];cases l[j]? with
 | none=>show (0:Rat)=0/p;rw[Rat.div_def,Rat.zero_mul]
 | some x=>rfl
theorem cI (p:Rat) : ∀ (r X:List Rat),A5 (r.map (· / p)) X=A5 r X/p
 | [],X=>by
  show A5 [] X=A5 [] X/p;simp only[A5,Rat.div_def];grind
 | x::r,[]=>by simp only[List.map_cons,A5,Rat.div_def];grind
 | x::r,z::X=>by
  have ih:=cI p r X;simp only[Rat.div_def]at ih;simp only[List.map_cons,A5,ih,Rat.div_def];grind
theorem Ym {n i:Nat} {v:List Rat} (hv:v.length=n) (hi:i<n):A5 (FR n i) v=v.getD i 0:=by
 have e:=congrArg (λ l=>l.getD i 0) (fS hv);simp only[HR,DK,List.map_map]at e;rw[PY,if_pos hi]at e;exact e
abbrev eO:Option Rat->List AV
 | none=>[.bool false,.nil,.nil]
 | some x=>eQ x
def DG (l:List Rat) (m:Nat):List (Option Rat):=l.map some++List.replicate (m-l.length) none
theorem I7 (m:Nat):DG [] m=List.replicate m none:=by simp [DG]
theorem H6 {l:List Rat} {m:Nat} (h:l.length<=m):(DG l m).length=m:=by simp [DG];omega
theorem I8 {l:List Rat} {m:Nat} {x:Rat} (h:l.length<m):(DG l m).set l.length (some x)=DG (l++[x]) m:=by
 unfold DG;have e:m-l.length=(m-(l++[x]).length)+1:=by simp;omega
 rw[e,List.replicate_succ,List.set_append_right _ _ (by simp)];simp
theorem I6 {l:List Rat} {m:Nat} (h:l.length=m):(DG l m).map eO=l.map eQ:=by
 unfold DG;rw[h,Nat.sub_self];simp [Function.comp_def]
abbrev eS (S:aY):List AV:=[.sl false (S.a.map λ r=>[AV.sl false (r.map eQ)]),.sl false (S.b.map eQ),.sl false (S.c.map eQ)]++eQ S.d
theorem bV (l:List Rat):GL (l.map eQ):=XX (λ x=>by simp only[CJ,A7,and_true,true_and];exact ⟨CS _,CS _⟩) l
theorem G7 {l:List Rat} {i:Nat} {x:Rat} (h:l[i]? = some x):l.take (i+1)=l.take i++[x]:=by
 rw[List.take_add_one,h];rfl
def TR (N:Nat):List I0->Bool
 | []=>true
 | .tmp t::r=>Nat.blt t N&&TR N r
 | .cell t _ _::r=>Nat.blt t N&&TR N r
theorem gP {N:Nat} {s s':St} (ho:s.own=s'.own) (pg : ∀ j,j<N->j4 s'.tm j=j4 s.tm j) : ∀ {res:List I0},TR N res=true->res.mapM (EU s)=res.mapM (EU s')
 | [],_=>rfl
 | .tmp t::r,h=>by
  simp only[TR,Bool.and_eq_true]at h;have:=gP ho pg h.2
  simp only[List.mapM_cons,EU,pg t (QZ.1 h.1),this]
 | .cell t agg n::r,h=>by
  simp only[TR,Bool.and_eq_true]at h;have:=gP ho pg h.2
  simp only[List.mapM_cons,EU,pg t (QZ.1 h.1),this,ho]
def zL (N:Nat) (fn:AFn) (tm:Tm) (K:AV->Mem->Prop) (cz:Tm) (M':Mem):Prop:=gh N cz=tm/\ZO cz M' fn.res (λ rs=>Rf rs λ v=>K v M')
theorem FB {L:Lib} {f:Nat} {fn:AFn} {vs:List AV} {tm:Tm} {M:Mem} {K:AV->Mem->Prop} (N:Nat) (hL:L f=some fn) (hp:Nat.beq vs.length fn.de=true) (hN:(Nat.ble fn.de N&&(HZ N fn.body&&TR N fn.res))=true)
  (h:AA L [.code fn.body] (CY 0 vs++GJ N tm) M (zL N fn tm K)):A6 L f vs tm M K:=by
 intro σ own hs;simp only[Bool.and_eq_true]at hN;obtain ⟨n1,n2,n3⟩:=hN;have n1:=Nat.le_of_ble_eq_true n1;have hp:vs.length=fn.de:=Nat.eq_of_beq_eq_true hp;have Hg:RX σ (CY 0 vs++GJ N tm) M ⟨LU (BJ σ) (CY 0 vs++GJ N tm),own⟩:=⟨λ j=>Or.inr (by rw[K3];exact J8 (K1 σ) j _),hs⟩;obtain ⟨n,c,s',hr,σ',cz,M',hR,hg,Da⟩:=h σ _ Hg;have Ln:Gh N (LU (BJ σ) (GJ N tm)) (CY 0 (vs.map (BJ σ))) (LU (BJ σ) (CY 0 vs++GJ N tm)):=by
  constructor
  ·intro j hj
   rw[dX,J8 (K1 σ),J8 (K1 σ)];rcases WL j (GJ N tm) (CY 0 vs) with ⟨_,e⟩|⟨hn,e⟩
   ·rw[e]
   ·rw[e,iO hj,iM j 0 vs hn]
  ·intro j hj
   rw[J8 (K1 σ),J8 (K1 σ)];rcases WL j (GJ N tm) (CY 0 vs) with ⟨hn,e⟩|⟨_,e⟩
   ·have:=dW j 0 vs hn
    omega
   ·rw[e]
 obtain ⟨s,r1,r2,r3⟩:=IR n (by simp [PZ,n2]) Ln hr;obtain ⟨rs,i1,i2,i3⟩:=gO hR Da;rw[<-gP (s:=s) r2.symm r3.lo n3,i3]at i1;have key : ∃ r,IP (rs.map (BM σ'))=BJ σ' r/\K r M':=by
  match rs,i2,i3 with
  | [],h,_=>exact ⟨.g9 [],rfl,h⟩
  | [v],h,e =>
   simp only[List.map_cons,List.map_nil,List.cons.injEq,and_true]at e;exact ⟨v,by simp only[List.map_cons,List.map_nil,IP];exact e.symm,h⟩
  | a::b::l,h,_=>exact ⟨.g9 (a::b::l),rfl,h⟩
 obtain ⟨r,k1,k2⟩:=key;refine ⟨r,s.own,σ',M',GY.intro hL (by simpa using hp) ⟨n,c,s,r1,?_,rfl⟩,?_,?_,k2⟩
 ·rw[i1,Option.map_some,k1]
 ·rw[<-r2];exact hR.sat
 ·intro j
  have e1:tg tm j=tg cz (N+j):=by rw[K3,K3,<-hg,iL]
  rcases hR.tm (N+j) with e|e
  ·rw[e1,e];rfl
  ·rw[e1,<-e,r3.hi (N+j) (by omega),J8 (K1 σ),iN,<-K3,e1]
theorem rW (σ:E7) (k:Nat) : ∀ (n i:Nat),B5 σ k i (List.replicate n none)=List.replicate n [.nil]
 | 0,_=>rfl
 | n+1,i=>by
  rw[List.replicate_succ,List.replicate_succ];show [AV.nil]::B5 σ k (i+1) (List.replicate n none)=_;rw[rW σ k n (i+1)]
theorem wS {L:Lib} {kk:List It} {tm:Tm} {M:Mem} {Q:Tm->Mem->Prop} (k s n:Nat) (e:c8 M k=some (s,.mx (List.replicate n none))) (h:AA L kk tm ((k,s,.rw 1 (List.replicate n [.nil]))::M) Q):AA L kk tm M Q:=by
 intro σ st hr;have hg : ∀ j t c,c5 ((k,s,.rw 1 (List.replicate n [.nil]))::M) j t=some c -> ∃ c0,c5 M j t=some c0/\c0.g8 σ j=c.g8 σ j:=by
  intro j t c g;by_cases hj:j=k
  ·subst hj
   cases t with
   | zero =>
    have h1:c8 ((j,s,BC.rw 1 (List.replicate n [.nil]))::M) j=some (s,.rw 1 (List.replicate n [.nil])):=by simp [c8]
    simp only[c5,h1,Option.some.injEq]at g;subst g;refine ⟨.mx (List.replicate n none),by simp only[c5,e],?_⟩;simp only[BC.g8,rW]
   | succ i =>
    have h1:c8 ((j,s,BC.rw 1 (List.replicate n [.nil]))::M) j=some (s,.rw 1 (List.replicate n [.nil])):=by simp [c8]
    simp only[c5,h1]at g;cases g
  ·have h1:c8 ((k,s,BC.rw 1 (List.replicate n [.nil]))::M) j=c8 M j:=by
    have hb:Nat.beq j k=false:=by
     cases ij:Nat.beq j k with
     | false=>rfl
     | true=>exact absurd (Nat.eq_of_beq_eq_true ij) hj
    simp only[c8,hb,cond_false]
   refine ⟨c,?_,rfl⟩;simp only[c5,h1]at g ⊢;exact g
 refine h σ st ⟨hr.tm,⟨?_,?_,?_,?_,?_⟩⟩
 ·intro j s' c g
  by_cases hj:j=k
  ·subst hj
   have h1:c8 ((j,s,BC.rw 1 (List.replicate n [.nil]))::M) j=some (s,.rw 1 (List.replicate n [.nil])):=by simp [c8]
   rw[h1]at g;simp only[Option.some.injEq,Prod.mk.injEq]at g;obtain ⟨rfl,_⟩:=g;exact hr.sat.site _ _ _ e
  ·have h1:c8 ((k,s,BC.rw 1 (List.replicate n [.nil]))::M) j=c8 M j:=by
    have hb:Nat.beq j k=false:=by
     cases ij:Nat.beq j k with
     | false=>rfl
     | true=>exact absurd (Nat.eq_of_beq_eq_true ij) hj
    simp only[c8,hb,cond_false]
   rw[h1]at g;exact hr.sat.site _ _ _ g
 ·intro j t c g
  obtain ⟨c0,q1,q2⟩:=hg j t c g;rw[<-q2];exact hr.sat.g8 _ _ _ q1
 ·intro j t c g
  obtain ⟨c0,q1,_⟩:=hg j t c g;exact hr.sat.old _ _ _ q1
 ·intro j t j' t' c c' g g' hσ
  obtain ⟨c0,q1,_⟩:=hg j t c g;obtain ⟨c1,q2,_⟩:=hg j' t' c' g';exact hr.sat.inj _ _ _ _ _ _ q1 q2 hσ
 ·intro j t c g hw
  cases t with
  | zero =>
   by_cases hj:j=k
   ·subst hj;exact hr.sat.low _ _ _ (EE e) rfl
   ·rw[KR hj]at g;exact hr.sat.low _ _ _ g hw
  | succ t =>
   obtain ⟨c0,q1,_⟩:=hg _ _ _ g;exact hr.sat.low _ _ _ q1 (Y0 q1)
theorem mU (v:Rat) : ∀ (r X:List Rat) (p:Nat),p<X.length->A5 r (X.set p v)=A5 r X+r.getD p 0*(v-X.getD p 0)
 | [],X,p,_=>by
  show (0:Rat)=0+0*_;grind
 | r::rs,[],p,h=>by simp at h
 | r::rs,x::X,0,_=>by
  simp only[List.set_cons_zero,A5,List.getD_cons_zero];grind
 | r::rs,x::X,p+1,h=>by
  have:=mU v rs X p (by simpa using h)
  simp only[List.set_cons_succ,A5,List.getD_cons_succ,this];grind
theorem mS {r X:List Rat} (h : ∀ j,r.getD j 0=0\/X.getD j 0=0):A5 r X=0:=by
 rw[N7 r X r.length (Nat.le_refl _)];exact SA _ λ j _=>by
  rcases h j with h|h
  ·rw[h,Rat.zero_mul]
  ·rw[h,Rat.mul_zero]
theorem dT (X:List Rat) (p j:Nat) (v:Rat):(X.set p v).getD j 0=if p=j/\p<X.length then v else X.getD j 0:=by
 rw[List.getD_eq_getElem?_getD,List.getElem?_set];by_cases e:p=j
 ·subst e
  by_cases h:p<X.length
  ·rw[if_pos rfl,if_pos h,if_pos ⟨rfl,h⟩];rfl
  ·rw[if_pos rfl,if_neg h,if_neg (λ x=>h x.2),List.getD_eq_getElem?_getD,List.getElem?_eq_none (by omega)]
 ·rw[if_neg e,if_neg (λ x=>e x.1),List.getD_eq_getElem?_getD]
theorem C8.free {m:List (List Rat)} {W c:Nat} {P:List Nat} (h:C8 m W W P) (hc:c<W) (hP:c ∉ P) :
  ∃ X:List Rat,X.length=W/\EJ m X/\X.getD c 0=1/\(∀ j,c<j->X.getD j 0=0) /\ ∀ j,j ∉ P->j≠c->X.getD j 0=0:=by
 have step : ∀ d,d<=P.length -> ∃ X:List Rat,X.length=W/\(∀ (i:Nat) (r:List Rat),P.length-d<=i->m[i]? = some r->A5 r X=0)/\X.getD c 0=1/\(∀ j,c<j->X.getD j 0=0) /\ ∀ j,j ∉ P->j≠c->X.getD j 0=0:=by
  intro d;induction d with
  | zero =>
   intro _;refine ⟨FR W c,by simp [FR],λ i r hi hr => ?_,by rw[QG,if_pos hc,if_pos rfl],λ j hj => ?_,λ j _ hj => ?_⟩
   ·refine mS λ j => ?_
    by_cases hj:j<W
    ·exact Or.inl (h.zr i r (by omega) hr j hj)
    ·exact Or.inr (by rw[QG,if_neg hj])
   ·rw[QG,if_neg (show ¬ j=c by omega)];split<;>rfl
   ·rw[QG,if_neg hj];split<;>rfl
  | succ d ih =>
   intro hd;obtain ⟨X,h1,h2,h3,h4,h5⟩:=ih (by omega);obtain ⟨p,hp⟩ : ∃ p,P[P.length-(d+1)]? = some p:=⟨_,zE (by omega)⟩;obtain ⟨t,ht⟩ : ∃ t,m[P.length-(d+1)]? = some t:=⟨_,zE (by have:=h.pl;omega)⟩;obtain ⟨hn,hz⟩:=h.nz _ p t hp ht;have hpW:=h.pb p (zM hp);have ym:p≠c:=λ e=>hP (e ▸ zM hp)
   by_cases o7:c<p
   ·refine ⟨X,h1,λ i r hi hr => ?_,h3,h4,h5⟩
    by_cases e:i=P.length-(d+1)
    ·subst e
     obtain rfl:=Option.some.inj (ht.symm.trans hr);refine mS λ j => ?_
     by_cases hj:j<p
     ·exact Or.inl (hz j hj)
     ·exact Or.inr (h4 j (by omega))
    ·exact h2 i r (by omega) hr
   ·refine ⟨X.set p (X.getD p 0-A5 t X/t.getD p 0),by simpa using h1,λ i r hi hr => ?_,?_,λ j hj => ?_,λ j hj hjc => ?_⟩
    ·rw[mU _ r X p (by omega)]
     by_cases e:i=P.length-(d+1)
     ·subst e
      obtain rfl:=Option.some.inj (ht.symm.trans hr);have:=Rat.div_mul_cancel hn (a:=A5 t X)
      grind
     ·have k9:r.getD p 0=0:=by
       by_cases hiP:i<P.length
       ·obtain ⟨q,hq⟩ : ∃ q,P[i]? = some q:=⟨_,zE hiP⟩
        exact (h.nz i q r hq hr).2 p (h.inc _ i p q (by omega) hp hq)
       ·exact h.zr i r (by omega) hr p hpW
      rw[k9,Rat.zero_mul,Rat.add_zero];exact h2 i r (by omega) hr
    ·rw[dT,if_neg (λ x:p=c/\p<X.length=>ym x.1)];exact h3
    ·rw[dT,if_neg (λ x:p=j/\p<X.length=>by omega)];exact h4 j hj
    ·rw[dT,if_neg (λ x:p=j/\p<X.length=>hj (x.1 ▸ zM hp))];exact h5 j hj hjc
 obtain ⟨X,h1,h2,h3,h4,h5⟩:=step P.length (Nat.le_refl _);refine ⟨X,h1,λ r hr => ?_,h3,h4,h5⟩;obtain ⟨i,hi⟩:=List.getElem?_of_mem hr;exact h2 i r (by omega) hi
theorem C8.bound {m:List (List Rat)} {W c:Nat} {P:List Nat} (h:C8 m W W P) (hP:c∈P) {X:List Rat} (hk:EJ m X) (hx : ∀ j,c<j->X.getD j 0=0):X.getD c 0=0:=by
 obtain ⟨i,hi⟩:=List.getElem?_of_mem hP;have au:=(zS hi).1;obtain ⟨r,hr⟩ : ∃ r,m[i]? = some r:=⟨_,zE (by have:=h.pl;omega)⟩;obtain ⟨hn,hz⟩:=h.nz i c r hi hr;have hcW:=h.pb c hP;have cn:=h.lr r (zM hr);have h1:=hk r (zM hr);rw[N7 r X W (by omega),WI W hcW λ j _ n9=>by
  rcases Nat.lt_or_ge j c with hj|hj
  ·rw[hz j hj,Rat.zero_mul]
  ·rw[hx j (by omega),Rat.mul_zero]]at h1
 rcases Rat.mul_eq_zero.1 h1 with h2|h2
 ·exact absurd h2 hn
 ·exact h2
theorem iI : ∀ {P Q:List Nat},P.Pairwise (· < ·)->Q.Pairwise (· < ·)->(∀ p∈P,p∈Q)->P.length<=Q.length
 | [],_,_,_,_=>Nat.zero_le _
 | p::P,[],_,_,h=>by have:=h p List.mem_cons_self;cases this
 | p::P,q::Q,hp,hq,h=>by
  rw[List.pairwise_cons]at hp hq;by_cases e:p=q
  ·subst e
   have:=iI hp.2 hq.2 λ x hx=>by
    rcases List.mem_cons.1 (h x (List.mem_cons_of_mem _ hx)) with rfl|h2
    ·exact absurd (hp.1 x hx) (Nat.lt_irrefl x)
    ·exact h2
   simpa using this
  ·have hpQ:p∈Q:=by
    rcases List.mem_cons.1 (h p List.mem_cons_self) with h2|h2
    ·exact absurd h2 e
    ·exact h2
   have hqp:=hq.1 p hpQ;have:=iI (P:=p::P) (List.pairwise_cons.2 hp) hq.2 λ x hx=>by
    rcases List.mem_cons.1 (h x hx) with rfl|h2
    ·rcases List.mem_cons.1 hx with e2|hx
     ·exact absurd e2.symm e
     ·have:=hp.1 x hx;omega
    ·exact h2
   simp only[List.length_cons]at this ⊢;omega
theorem C8.pw {m:List (List Rat)} {W c:Nat} {P:List Nat} (h:C8 m W c P):P.Pairwise (· < ·):=by
 rw[List.pairwise_iff_getElem];intro i j hi hj ux;exact h.inc i j _ _ ux (zE hi) (zE hj)
def NX (a:List (List Rat)) (W r:Nat):Prop := ∃ m P,C8 m W W P/\(∀ X,EJ m X↔EJ a X)/\P.length=r
theorem tD {a b:List (List Rat)} {W r s:Nat} (ha:NX a W r) (hb:NX b W s) (h : ∀ X:List Rat,X.length=W->EJ b X->EJ a X):r<=s:=by
 obtain ⟨m,P,e1,k1,rfl⟩:=ha;obtain ⟨m',Q,e2,k2,rfl⟩:=hb;refine iI e1.pw e2.pw λ p hp=>Classical.byContradiction λ hq => ?_
 obtain ⟨X,x1,x2,x3,x4,_⟩:=e2.free (e1.pb p hp) hq;have:=e1.bound hp ((k1 X).2 (h X x1 ((k2 X).1 x2))) x4
 rw[x3]at this;exact absurd this (by decide)
theorem AfP {a b:List (List Rat)} {W r s:Nat} (ha:NX a W r) (hb:NX b W s) (h : ∀ X:List Rat,X.length=W->(EJ a X↔EJ b X)):r=s :=
 Nat.le_antisymm (tD ha hb λ X hX=>(h X hX).2) (tD hb ha λ X hX=>(h X hX).1)
end Go.g6

namespace Go.g6
theorem C8.v7 {m:List (List Rat)} {W c i:Nat} {P:List Nat} {r r':List Rat} (h:C8 m W c P) (hi:m[i]? = some r) (hl:r'.length=W) (he : ∀ j,j<c->r'.getD j 0=r.getD j 0):C8 (m.set i r') W c P:=by
 have fm : ∀ (q:Nat) (x:List Rat),(m.set i r')[q]? = some x -> ∃ y,m[q]? = some y /\ ∀ j,j<c->x.getD j 0=y.getD j 0:=λ q x hx=>by
  rw[List.getElem?_set]at hx;by_cases e:i=q
  ·subst e
   rw[if_pos rfl]at hx;split at hx
   ·obtain rfl:=Option.some.inj hx;exact ⟨r,hi,he⟩
   ·cases hx
  ·rw[if_neg e]at hx;exact ⟨x,hx,λ_ _=>rfl⟩
 refine ⟨λ x hx => ?_,by rw[List.length_set];exact h.pl,h.inc,h.pb,λ q p x hp hx => ?_,λ q x hq hx j hj => ?_⟩
 ·rcases OB hx with rfl|⟨j,_,hj⟩
  ·exact hl
  ·exact h.lr _ (zM hj)
 ·obtain ⟨y,hy,oi⟩:=fm q x hx
  have ym:=h.pb p (zM hp);have:=h.nz q p y hp hy
  exact ⟨by rw[oi p ym];exact this.1,λ j hj=>by rw[oi j (by omega)];exact this.2 j hj⟩
 ·obtain ⟨y,hy,oi⟩:=fm q x hx
  rw[oi j hj];exact h.zr q y hq hy j hj
structure CO (T:List (List Rat)) (n w:Nat) (m:List (List Rat)) (P:List Nat) (c:Nat) (d:Rat):Prop where
 o5:C8 m w c P
 len:m.length=n
 red : ∀ (i p:Nat),P[i]? = some p -> ∀ (q:Nat) (r:List Rat),m[q]? = some r->r.getD p 0=if q=i then 1 else 0
 kz : ∀ X,EJ m X↔EJ T X
 dt : ∀ (u:Rat) (D:List (List Rat)->Rat),EQ n w u D->D T=d*D m
theorem CO.start {T:List (List Rat)} {n w:Nat} (hl:T.length=n) (hw : ∀ r∈T,r.length=w):CO T n w T [] 0 1 :=
 ⟨C8.start hw,hl,λ i p h=>by simp at h,λ_=>Iff.rfl,λ_ _ _=>(Rat.one_mul _).symm⟩
section
variable {T:List (List Rat)} {n w:Nat} {m:List (List Rat)} {P:List Nat} {c:Nat} {d:Rat}
theorem CO.skip (h:CO T n w m P c d) (hz : ∀ (i:Nat) (r:List Rat),P.length<=i->m[i]? = some r->r.getD c 0=0):CO T n w m P (c+1) d :=
 ⟨h.o5.skip hz,h.len,h.red,h.kz,h.dt⟩
theorem CO.v7 {i:Nat} {r r':List Rat} {d':Rat} (h:CO T n w m P c d) (hi:m[i]? = some r) (hl:r'.length=w) (he : ∀ j,j<c->r'.getD j 0=r.getD j 0) (hk : ∀ X,EJ (m.set i r') X↔EJ m X) (hD : ∀ (u:Rat) (D:List (List Rat)->Rat),EQ n w u D->d*D m=d'*D (m.set i r')):CO T n w (m.set i r') P c d':=by
 refine ⟨h.o5.v7 hi hl he,by rw[List.length_set];exact h.len,λ i2 p hp q x hx => ?_,λ X=>(hk X).trans (h.kz X),λ u D hd=>(h.dt u D hd).trans (hD u D hd)⟩;rw[List.getElem?_set]at hx;by_cases e:i=q
 ·subst e
  rw[if_pos rfl]at hx;split at hx
  ·obtain rfl:=Option.some.inj hx
   rw[he p (h.o5.pb p (zM hp))];exact h.red i2 p hp i r hi
  ·cases hx
 ·rw[if_neg e]at hx
  exact h.red i2 p hp q x hx
theorem CO.scale {t:List Rat} {p:Rat} (h:CO T n w m P c d) (hk:m[P.length]? = some t) (hp:p≠0):CO T n w (m.set P.length (t.map (· / p))) P c (d*p):=by
 have pe:=(zS hk).1;refine h.v7 hk (by rw[List.length_map];exact h.o5.lr t (zM hk)) (λ j hj => ?_) (λ X=>⟨λ hw x hx => ?_,λ hw x hx => ?_⟩) (λ u D hd => ?_)
 ·rw[mG,h.o5.zr P.length t (Nat.le_refl _) hk j hj,Rat.div_def,Rat.zero_mul]
 ·obtain ⟨q,hq⟩:=List.getElem?_of_mem hx
  by_cases e:q=P.length
  ·subst e
   cases hk.symm.trans hq;have h1:=hw (t.map (· / p)) (zM (i:=P.length) (by rw[List.getElem?_set,if_pos rfl,if_pos pe]));rw[cI]at h1;have h2:A5 t X=A5 t X/p*p:=by rw[Rat.div_def,Rat.mul_assoc,Rat.inv_mul_cancel _ hp,Rat.mul_one]
   rw[h2,h1,Rat.zero_mul]
  ·exact hw x (zM (i:=q) (by rw[List.getElem?_set,if_neg (Ne.symm e)];exact hq))
 ·rcases OB hx with rfl|⟨j,_,hj⟩
  ·rw[cI,hw t (zM hk),Rat.div_def,Rat.zero_mul]
  ·exact hw x (zM hj)
 ·have h1:=hd.sc m P.length t p⁻¹ h.len h.o5.lr hk
  rw[show t.map (· * p⁻¹)=t.map (· / p) from List.map_congr_left λ z _=>(Rat.div_def z p).symm]at h1;have h2:=Rat.mul_inv_cancel p hp;rw[h1];grind
theorem lK (f:Rat) (r t:List Rat):sj f r t=comb 1 f 1 r t:=by
 unfold sj comb;congr 1;funext x y
 rw[Rat.div_def];grind
theorem CO.sj {i:Nat} {r t:List Rat} (f:Rat) (h:CO T n w m P c d) (hk:m[P.length]? = some t) (hi:m[i]? = some r) (lz:i≠P.length):CO T n w (m.set i (sj f r t)) P c d:=by
 have cn:=h.o5.lr r (zM hi);have ct:=h.o5.lr t (zM hk);refine h.v7 hi (by rw[lM (by omega)];exact cn) (λ j hj => ?_) (λ X => ?_) (λ u D hd => ?_)
 ·rw[lL (by omega),h.o5.zr P.length t (Nat.le_refl _) hk j hj,Rat.mul_zero]
  grind
 ·rw[lK]
  exact qO hi hk (Ne.symm lz) (by omega) (by decide) (by decide) X
 ·have h1:=hd.ad m i P.length r t 1 f 1 h.len h.o5.lr hi hk lz (by decide)
  rw[lK,h1,Rat.div_def];grind
theorem CO.swap {i:Nat} {r t:List Rat} (h:CO T n w m P c d) (hi:m[i]? = some r) (hk:m[P.length]? = some t) (hki:P.length<i):CO T n w ((m.set i t).set P.length r) P c (-d):=by
 have au:=(zS hi).1;have pe:=(zS hk).1;refine ⟨h.o5.swap hi hk (by omega) (Nat.le_refl _),by rw[List.length_set,List.length_set];exact h.len,λ i2 p hp q x hx => ?_,λ X=>(qN hi hk X).trans (h.kz X),λ u D hd => ?_⟩
 ·have ub:=(zS hp).1
  rw[List.getElem?_set,List.getElem?_set,List.length_set]at hx;by_cases e1:P.length=q
  ·rw[if_pos e1,if_pos (by omega)]at hx
   obtain rfl:=Option.some.inj hx;have:=h.red i2 p hp i r hi
   rw[if_neg (by omega)]at this;rw[if_neg (by omega)];exact this
  ·rw[if_neg e1]at hx
   by_cases e2:i=q
   ·rw[if_pos e2,if_pos (by omega)]at hx
    obtain rfl:=Option.some.inj hx;have:=h.red i2 p hp _ t hk
    rw[if_neg (by omega)]at this;rw[if_neg (by omega)];exact this
   ·rw[if_neg e2]at hx
    exact h.red i2 p hp q x hx
 ·rw[h.dt u D hd,hd.sw m i P.length r t h.len h.o5.lr hi hk (by omega)]
  grind
theorem CO.tk {t:List Rat} (h:CO T n w m P c d) (hk:m[P.length]? = some t) (h1:t.getD c 0=1) (hz : ∀ (q:Nat) (r:List Rat),q≠P.length->m[q]? = some r->r.getD c 0=0):CO T n w m (P++[c]) (c+1) d:=by
 refine ⟨h.o5.tk hk (by rw[h1];decide) (λ i r hi hr=>hz i r (by omega) hr),h.len,λ i p hp q r hr => ?_,h.kz,h.dt⟩;by_cases e:i<P.length
 ·rw[List.getElem?_append_left e]at hp
  exact h.red i p hp q r hr
 ·have au:=(zS hp).1
  rw[List.length_append,List.length_singleton]at au;rw[List.getElem?_append_right (by omega),show i-P.length=0 by omega]at hp;obtain rfl:=Option.some.inj hp;obtain rfl:i=P.length:=by omega
  by_cases e2:q=P.length
  ·subst e2
   cases hk.symm.trans hr;rw[if_pos rfl,h1]
  ·rw[if_neg e2];exact hz q r e2 hr
theorem CO.Oe (h:CO T n w m P c d) (hc:c<=w) (z9:w<=c\/n<=P.length):NX T w P.length:=by
 refine ⟨m,P,?_,h.kz,rfl⟩;rcases z9 with e|e
 ·obtain rfl:c=w:=by omega
  exact h.o5
 ·have:=h.o5.pl
  have:=h.len
  exact h.o5.wide (by omega) hc
theorem CO.full {w':Nat} (h:CO T n w m P c d) (hc:c<=w') (z9:w'<=c\/n<=P.length):C8 m w w' P:=by
 rcases z9 with e|e
 ·obtain rfl:c=w':=by omega
  exact h.o5
 ·have:=h.o5.pl
  have:=h.len
  exact h.o5.wide (by omega) hc
theorem CO.Ob (h:CO T n w m P c d) (hc:c<=n) (hP:P.length=n) : ∀ i,i<n->P[i]? = some i:=λ i hi=>by
 have ft:c=n:=by have:=h.o5.le;omega
 subst ft;obtain ⟨q,hq⟩ : ∃ q,P[i]? = some q:=⟨_,zE (by omega)⟩;rw[hq,h.o5.diag hP i q hq]
theorem CO.unit (h:CO T n w m P c d) (hc:c<=n) (hP:P.length=n) {i:Nat} (hi:i<n) {q:Nat} {r:List Rat} (hr:m[q]? = some r):r.getD i 0=if q=i then 1 else 0 :=
 h.red i i (h.Ob hc hP i hi) q r hr
theorem CO.vy {u:Rat} {D:List (List Rat)->Rat} (h:CO T n n m P c d) (hc:c<=n) (hP:P.length=n) (hD:EQ n n u D):D T=u*d:=by
 have Ak:P=List.range n:=by
  refine List.ext_getElem? λ i => ?_
  by_cases hi:i<n
  ·rw[h.Ob hc hP i hi,List.getElem?_range hi]
  ·rw[List.getElem?_eq_none (by omega),List.getElem?_eq_none (by simp;omega)]
 have gl : ∀ (m:List (List Rat)) (P:List Nat),(∀ (i p:Nat) (r:List Rat),P[i]? = some p->m[i]? = some r->r.getD p 0=1)->FE m P=1:=by
  intro m;induction m with
  | nil=>intro P _;cases P<;>rfl
  | cons r m ih =>
   intro P hh;cases P with
   | nil=>rfl
   | cons p P =>
    rw[FE,hh 0 p r rfl rfl,Rat.one_mul];exact ih P λ i p' r' h1 h2=>hh (i+1) p' r' h1 h2
 have hpd:FE m P=1:=gl m P λ i p r h1 h2=>by rw[h.red i p h1 i r h2,if_pos rfl]
 have ht:=hD.tr m h.len h.o5.lr ((h.full (w':=n) hc (Or.inr (by omega))).Hz λ i hi=>h.Ob hc hP i hi);rw[h.dt u D hD,ht,<-Ak,hpd,Rat.one_mul,Rat.mul_comm]
theorem CO.Bu {u:Rat} {D:List (List Rat)->Rat} (h:CO T n n m P c d) (hc:c<=n) (hP:P.length<n) (z9:n<=c\/n<=P.length) (hD:EQ n n u D):D T=0:=by
 obtain rfl:c=n:=by omega
 have hlen:=h.len;obtain ⟨r,hr⟩ : ∃ r,m[P.length]? = some r:=⟨_,zE (by omega)⟩;have hz:r.map (· * 0)=r:=by
  refine List.ext_getElem? λ j => ?_
  rw[List.getElem?_map];by_cases hj:j<r.length
  ·have h1:=h.o5.zr P.length r (Nat.le_refl _) hr j (by rw[h.o5.lr r (zM hr)]at hj;exact hj)
   rw[List.getD_eq_getElem?_getD,zE hj,Option.getD_some]at h1;rw[zE hj,Option.map_some,Rat.mul_zero,h1]
  ·rw[List.getElem?_eq_none (by omega)];rfl
 have h1:=hD.sc m P.length r 0 hlen h.o5.lr hr;rw[hz,Rat.mul_zero,uE hr]at h1;rw[h.dt u D hD,h1,Rat.mul_zero]
end
theorem CO.ns {a b m:List (List Rat)} {n W:Nat} {P:List Nat} {c:Nat} {d:Rat} (h:CO (DI a b) n (n+W) m P c d) (hl:a.length=b.length) (ha : ∀ r∈a,r.length=n) (hc:c<=n) (z9:n<=c\/n<=P.length):P.length=n↔NS n a :=
 tE (h.full hc z9) h.kz hl ha
def HV (m:List (List Rat)) (k:Nat):List Rat:=m.map λ r=>r.getD k 0
theorem CO.sol {a b m:List (List Rat)} {n W:Nat} {P:List Nat} {c:Nat} {d:Rat} (h:CO (DI a b) n (n+W) m P c d) (hl:a.length=b.length) (ha : ∀ r∈a,r.length=n) (hb : ∀ r∈b,r.length=W) (hc:c<=n) (hP:P.length=n) {k:Nat} (hk:k<W) {i:Nat} {r s:List Rat} (hr:a[i]? = some r) (hs:b[i]? = some s):A5 r (HV m (n+k))=s.getD k 0:=by
 have bb:(HV m (n+k)).length=n:=by rw[HV,List.length_map];exact h.len
 refine lP h.kz hl ha hb hk bb h.o5.lr (λ x hx => ?_) hr hs;obtain ⟨q,hq⟩:=List.getElem?_of_mem hx;have Az:q<n:=by have:=(zS hq).1;have:=h.len;omega
 have zw:=h.o5.lr x hx;have hu:x.take n=FR n q:=by
  refine List.ext_getElem? λ j => ?_
  by_cases hj:j<n
  ·have h1:=h.unit hc hP hj hq
   have h2:=QG n q j;rw[if_pos hj]at h2;rw[List.getElem?_take,if_pos hj];obtain ⟨y,hy⟩ : ∃ y,x[j]? = some y:=⟨_,zE (by omega)⟩;obtain ⟨z,hz⟩ : ∃ z,(FR n q)[j]? = some z:=⟨_,zE (by rw[WQ];exact hj)⟩;rw[List.getD_eq_getElem?_getD,hy,Option.getD_some]at h1;rw[List.getD_eq_getElem?_getD,hz,Option.getD_some]at h2;rw[hy,hz,h1,h2];by_cases e:q=j
   ·rw[if_pos e,if_pos e.symm]
   ·rw[if_neg e,if_neg (Ne.symm e)]
  ·rw[List.getElem?_eq_none (by rw[List.length_take];omega),List.getElem?_eq_none (by rw[WQ];omega)]
 rw[hu,Ym bb Az,HV,List.getD_eq_getElem?_getD,List.getElem?_map,hq];rfl
end Go.g6

namespace Go.g6
structure Pt where
 x:Rat
 y:Rat
 w:Rat
def Ahq (g:List Pt) (f:Pt->Rat):Rat:=g.foldl (λ s p=>s+f p) 0
def rhs (g:List Pt) (k:Nat):Rat:=Ahq g λ p=>p.w*p.x^k*p.y
theorem eF {α:Type} {l:List α} (h:l.length=1) : ∃ a,l=[a]:=by
 rcases l with _|⟨a,_|⟨b,l⟩⟩<;>simp at h
 exact ⟨a,rfl⟩
theorem eG {α:Type} {l:List α} (h:l.length=2) : ∃ a b,l=[a,b]:=by
 obtain ⟨a,r,rfl⟩ : ∃ a r,l=a::r:=by
  cases l with
  | nil=>simp at h
  | cons a r=>exact ⟨a,r,rfl⟩
 obtain ⟨b,rfl⟩:=eF (l:=r) (by simpa using h);exact ⟨_,_,rfl⟩
theorem eH {α:Type} {l:List α} (h:l.length=3) : ∃ a b c,l=[a,b,c]:=by
 obtain ⟨a,r,rfl⟩ : ∃ a r,l=a::r:=by
  cases l with
  | nil=>simp at h
  | cons a r=>exact ⟨a,r,rfl⟩
 obtain ⟨b,c,rfl⟩:=eG (l:=r) (by simpa using h);exact ⟨_,_,_,rfl⟩
theorem qT {α:Type} {l:List α} (h:l.length=4) : ∃ a b c d,l=[a,b,c,d]:=by
 obtain ⟨a,r,rfl⟩ : ∃ a r,l=a::r:=by
  cases l with
  | nil=>simp at h
  | cons a r=>exact ⟨a,r,rfl⟩
 obtain ⟨b,c,d,rfl⟩:=eH (l:=r) (by simpa using h);exact ⟨_,_,_,_,rfl⟩
end Go.g6
