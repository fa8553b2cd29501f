/-
  Arguments of the laws: numbers and lists of numbers, with their ranges.
-/
import Derived.Test.YthgjfcjecnmflaaGreatB11
import Derived.Test.YthgjfcjecnmflaaGreatB9
import Derived.Test.YthgjfcjecnmflaaGreatB8
import Derived.Test.YthgjfcjecnmflaaGreatB10
import Derived.Test.YthgjfcjecnmflaaGreatB7
import Derived.Test.YthgjfcjecnmflaaGreatB2
set_option linter.unusedSimpArgs false
set_option linter.unusedVariables false
set_option linter.unnecessarySimpa false
namespace Go.e9
theorem nD {α:Type} {enc:α->List AV} {p:α->Prop} : ∀ {es:List (List AV)},(∀ x∈es,∃ y,x=enc y/\p y) -> ∃ l:List α,es=l.map enc /\ ∀ y∈l,p y
 | [],_=>⟨[],rfl,by simp⟩
 | e::es,h=>by
  obtain ⟨y,rfl,hy⟩:=h e List.mem_cons_self;obtain ⟨l,rfl,hl⟩:=nD (enc:=enc) (p:=p) λ x hx=>h x (List.mem_cons_of_mem _ hx)
  exact ⟨y::l,rfl,by simpa using ⟨hy,hl⟩⟩
theorem Acc {α:Type} {enc:α->List AV} {p:α->Prop} {e:Ty} {cs:List AV} (he : ∀ x,G4 e x -> ∃ y,x=enc y/\p y) (h:G4 (.sl e) cs) : ∃ l:List α,cs=[.sl true (l.map enc)]/\l.length<9223372036854775808 /\ ∀ y∈l,p y:=by
 obtain ⟨es,rfl,hl,hx⟩:=h;obtain ⟨l,rfl,hp⟩:=nD (enc:=enc) (p:=p) λ x hm=>he x (hx x hm)
 refine ⟨l,rfl,?_,hp⟩;have:maxLen=9223372036854775807:=rfl
 simp at hl;omega
theorem Va {n:Int} (h:(Lit.int .i64 n).wf=true):HR n:=by
 simp only[Lit.wf,Bool.and_eq_true,decide_eq_true_eq]at h;have h1:IntKind.i64.min = -9223372036854775808:=rfl;have h2:IntKind.i64.max=9223372036854775807:=rfl;rw[h1,h2]at h;unfold HR;constructor<;>omega
theorem aR {cs:List AV} (h:G4 tI cs) : ∃ n,cs=QK n/\HR n:=by obtain ⟨n,rfl,hw⟩:=h;exact ⟨n,rfl,Va hw⟩
theorem mB {cs:List AV} (h:G4 (.sl tI) cs) : ∃ l:List Int,cs=[.sl true (l.map QK)]/\l.length<9223372036854775808 /\ ∀ v∈l,HR v:=Acc (λ_=>aR) h
end Go.e9
namespace Go.e9
open F
attribute [local irreducible] AA AF AQ AD DW AW A9 BD CO AX BI FZ CE A4 CD C7 AB BA AJ pw D6 C3 E7 EH FE BP C4 B9 CF
variable {L:Lib}
set_option maxHeartbeats 8000000
abbrev eM (m:List (List Rat)):List (List AV):=m.map λ r=>[AV.sl false (r.map eQ)]
end Go.e9

namespace Go.e9
variable {L:Lib}
end Go.e9

namespace Go.e9
open F
attribute [local irreducible] AA AF AQ AD DW AW A9 BD CO AX BI FZ CE A4 CD C7 AB BA AJ pw D6 C3 E7 EH FE BP C4 B9 CF
variable {L:Lib}
set_option maxHeartbeats 16000000
set_option maxRecDepth 8000
abbrev jC (q:Bool) (m:List (List Rat)):List (List AV):=m.map λ r=>[AV.sl q (r.map eQ)]
theorem yT:dg 1=[1]:=by rw[IJ (by decide)];simp [EZ]
theorem Py {a b:List Rat} {j:Nat} {y:Rat} (hl:a.length=b.length) (hy:a[j]? = some y):(a.take j++b.drop j).set j y=a.take (j+1)++b.drop (j+1):=by
 have h1:=(zS hy).1;have ht:(a.take j).length=j:=by rw[List.length_take];omega
 rw[List.set_append_right _ _ (by omega),ht,Nat.sub_self,List.drop_eq_getElem_cons (by omega),List.set_cons_zero,RD hy,List.append_assoc];rfl
theorem Sw (x:Rat):qv false (dg x.num.natAbs) (dg x.den)=OI x:=by
 unfold OI;split
 ·rename_i h
  have:=FA (-x)
  rw[Rat.neg_num,Int.natAbs_neg,Rat.neg_den,show decide (-x.num<0)=false from decide_eq_false (by omega)]at this;exact this
 ·rename_i h
  have:=FA x
  rw[show decide (x.num<0)=false from decide_eq_false h]at this;exact this
theorem jJ (N:aj L) {x:Rat} {k:Nat} (hx:Bt k x) (hk:k<2199023255552):Ev L 256 [.agg (eQ x)] (.agg (eQ (OI x))):=by
 have hs:=hx.sm hk;have hT:=aD N.toa6 false false false (dg x.num.natAbs) (dg x.den) (hs.1.le (by omega)) (hs.2.le (by omega));rw[Sw]at hT;refine Ev.x N.LN rfl rfl ?_;(repeat' ((first|apply AE|refine AC (hT) ?_)<;>conv=>whnf))
 exact AU rfl (EA _)
theorem jD (z:Int):eQ (z:Rat)=[.bool (decide (z<0)),.sl false ((dg z.natAbs).map AL),.sl false [[.int .u32 1]]]:=by
 simp only[eQ,rQ,Rat.num_intCast,Rat.den_intCast,yT];rfl
theorem Ox (N:aj L) {x:Rat} {k:Nat} (hx:Bt k x) (hk:k<2199023255552):Ev L 257 [.agg (eQ x)] (.j4 [.agg (eQ ((x.num:Int):Rat)),.agg (eQ (((x.den:Nat):Int):Rat))]):=by
 rw[jD,jD,show decide (((x.den:Nat):Int)<0)=false by simp,Int.natAbs_natCast];refine Ev.x N.LJ rfl rfl ?_;(repeat' ((first|refine IH rfl ?_|apply AE)<;>conv=>whnf))
 exact AU rfl (by
  simp only[A6,C6,F9,and_true,true_and];exact ⟨CQ _,CQ _⟩)
theorem Km (N:aj L) {a b:Rat} {k l:Nat} (ha:Bt k a) (hb:Bt l b) (hk:k+l<1000000000000):Ev L 258 [.agg (eQ a),.agg (eQ b)] (.agg (eQ (N0 a b))):=by
 have hS:=HZ N.toa6 ha (by omega);have hs:=ID (x:=a);generalize u9 a.num=s at *;refine Ev.x N.LI rfl rfl ?_;by_cases h0:a=0
 ·have hA:=jJ N hb (by omega)
  have ju:=hs.2 h0;unfold N0;rw[if_pos h0];(repeat' ((first|(apply AG<;>intro hc<;>try omega)|apply AE|refine AC (hS) ?_|refine AC (hA) ?_)<;>conv=>whnf))
  exact AU rfl (EA _)
 ·have ju:s≠0:=λ e=>h0 (hs.1 e)
  unfold N0;rw[if_neg h0];by_cases ov:b=0
  ·have hD:=Nm N.toa6 68719476736 (by omega) (decide (a.num<0)) (decide (b.num<0)) false false false false _ _ _ _ (ha.sm (by omega)).1 (ha.sm (by omega)).2 (hb.sm (by omega)).1 (hb.sm (by omega)).2 (by rw[FA];exact ov)
   rw[if_pos ov];(repeat' ((first|(apply AG<;>intro hc<;>try omega)|apply AE|refine AC (hS) ?_|refine AC (hD) ?_)<;>conv=>whnf))
   exact AU rfl (EA _)
  ·have hD:=Z3 N.toa6 ha hb (by omega) (by omega) ov
   have m8:=ZP h0 ov;have bk:=ha.nv hb;have hP:=Ox N bk (by omega);have sz:=oK m8;have mq:=Z3 N.toa6 ha bk.xp (by omega) (by omega) sz;have hA:=jJ N (ha.nv bk.xp) (by omega);rw[if_neg ov];generalize a/b=c at *;generalize ((c.num:Int):Rat)=nn at *;generalize (((c.den:Nat):Int):Rat)=dd at *;generalize a/nn=e at *;(repeat' ((first|(apply AG<;>intro hc<;>try omega)|apply AE|refine AC (hS) ?_|refine AC (hD) ?_|refine AC (hP) ?_|refine AC (mq) ?_|refine AC (hA) ?_)<;>conv=>whnf))
   exact AU rfl (EA _)
theorem kP (N:aj L) (q:Bool) (p:List Rat) (k:Nat) (hp:BQ p=p) (hl:p.length<=12) (hb:Bs k p) (hk:k<=10000000):Ev L 259 [.sl q (p.map eQ)] (.j4 [.agg (eQ (DR p)),.sl false ((p.map (· / DR p)).map eQ)]):=by
 have hO:=KA N.toa6 0 (by omega);have qi : ∀ i,Bt (4096*k) (DR (p.take i)):=λ i=>by
  by_cases hi:i<=12
  ·refine (W9 hb i).le (zR k ?_)
   have:2^i<=2^12:=Nat.pow_le_pow_right (by omega) hi
   omega
  ·rw[zT (by omega)]
   have:=W9 hb p.length
   rw[zT (Nat.le_refl _)]at this;refine this.le (zR k ?_);have:2^p.length<=2^12:=Nat.pow_le_pow_right (by omega) hl
   omega
 have Zm:=bL hp;have ay:p.length=0 \/ ∃ m x,p.length=m+1/\p[m]? = some x/\x≠0:=by
  rcases Nat.eq_zero_or_pos p.length with h|h
  ·exact Or.inl h
  ·have h1:=VM hp (by omega)
   obtain ⟨m,hm⟩ : ∃ m,p.length=m+1:=⟨p.length-1,by omega⟩;obtain ⟨x,hx⟩ : ∃ x,p[m]? = some x:=⟨_,zE (by omega)⟩;rw[hm,Nat.add_sub_cancel,List.getD_eq_getElem?_getD,hx]at h1;exact Or.inr ⟨m,x,hm,hx,h1⟩
 have jf:(p.map (· / DR p)).length=p.length:=List.length_map ..;have bt : ∀ (i:Nat) (x:Rat),p[i]? = some x->(p.map (· / DR p))[i]? = some (x/DR p):=λ i x hx=>by rw[List.getElem?_map,hx];rfl
 have Zn : ∀ (x:Rat),x∈p->DR p≠0:=λ x hx=>by
  rcases Zm with h|h
  ·rw[h]at hx;cases hx
  ·exact h
 have Hv:=qi p.length;rw[List.take_length]at Hv;refine Ev.x N.LK rfl rfl ?_;(repeat' (apply AE<;>conv=>whnf))
 refine FC 1000 N.F6 rfl rfl ?_;(repeat' ((first|apply AR|apply AE)<;>conv=>whnf))
 refine FK ?_;rcases ay with h0|⟨m,z,hm,hz,bu⟩
 case' inl =>
  (repeat' ((first|(apply AG<;>intro hc<;>try omega)|apply AE)<;>conv=>whnf))
  clear h0 hc
 case' inr =>
  have Jm:p[((p.length:Int)-1).toNat]? = some z:=by rw[show ((p.length:Int)-1).toNat=m by omega];exact hz
  have hS:=HZ N.toa6 (hb.at hz) (by omega);have hs:=ID (x:=z);generalize u9 z.num=s at *;have ju:s≠0:=λ e=>bu (hs.1 e)
  (repeat' ((first|(apply AG<;>intro hc<;>try omega)|(apply BX;omega)|(refine BL (by assumption) ?_ rfl ?_;omega)|apply AE|refine AC (hS) ?_)<;>conv=>whnf))
 all_goals
  refine NR (enc:=eQ) (λ_=>rfl) (Nat.le_refl _) ?_;rw[List.take_length];(conv=>whnf)
  refine ⟨rfl,_,rfl,?_⟩;(conv=>whnf)
  (repeat' ((first|apply AR|refine AC (hO) ?_)<;>conv=>whnf))
  refine ES (λ i=>p.length-i) (λ(i:Nat)=>i<=p.length) (λ i=>[(15,.int .i64 i)]) (λ i=>[(4,4,.bx (eQ (DR (p.take i))))]) [] [] 0 (by first|exact (by (conv=>whnf);exact ⟨rfl,rfl,rfl⟩)|(rw[List.take_zero];exact (by (conv=>whnf);exact ⟨rfl,rfl,rfl⟩))) (by omega) ?_;intro i p1 ih;by_cases hi:i<p.length
  ·obtain ⟨x,hx⟩ : ∃ x,p[i]? = some x:=⟨_,zE hi⟩
   have gi:p[(i:Int).toNat]? = some x:=hx;have hC:=Km N (qi i) (hb.at hx) (by omega);rw[<-nN hx]at hC;generalize DR (p.take i)=m0 at *;generalize gf:DR (p.take (i+1))=m1 at hC;(repeat' ((first|(apply AG<;>intro hc<;>try omega)|(apply AZ;omega)|(refine BL (by assumption) ?_ rfl ?_;omega)|apply AE|refine AC (hC) ?_)<;>conv=>whnf))
   subst gf;exact B0 [] (ih (i+1) (by omega) (by omega))
  have ei:i=p.length:=by omega
  clear ih;rw[ei,List.take_length];generalize hMM:DR p=M at *;(repeat' ((first|(apply AG<;>intro hc<;>try omega)|apply AR|apply AE)<;>conv=>whnf))
  refine EM (enc:=eO) none p.length rfl rfl (by omega) ?_;(conv=>whnf)
  (repeat' (apply AR<;>conv=>whnf))
  refine ES (λ i=>p.length-i) (λ(i:Nat)=>i<=p.length) (λ i=>[(28,.int .i64 i)]) (λ i=>[(25,25,.rw 3 ((EK ((p.map (· / M)).take i) p.length).map eO))]) [] [] 0 (by first|exact (by (conv=>whnf);exact ⟨rfl,rfl,rfl⟩)|(rw[List.take_zero,<-I2];exact (by (conv=>whnf);exact ⟨rfl,rfl,rfl⟩))) (by omega) ?_;intro e e1 eh;have uk:=IM (l:=(p.map (· / M)).take e) (m:=p.length) (by rw[List.length_take];omega);by_cases wq:e<p.length
  ·obtain ⟨x,hx⟩ : ∃ x,p[e]? = some x:=⟨_,zE wq⟩
   have gi:p[(e:Int).toNat]? = some x:=hx;have hD:=Z3 N.toa6 (hb.at hx) Hv (by omega) (by omega) (Zn x (zM hx));have j7:=I3 (l:=(p.map (· / M)).take e) (m:=p.length) (x:=x/M) (by rw[List.length_take];omega);rw[List.length_take,Nat.min_eq_left (by omega),<-RD (bt e x hx)]at j7;generalize EK ((p.map (· / M)).take e) p.length=F0 at *;(repeat' ((first|(apply AG<;>intro hc<;>try omega)|(apply A3;omega)|(refine BL (by assumption) ?_ rfl ?_;omega)|apply AE|refine AC (hD) ?_)<;>conv=>whnf))
   refine F3 (enc:=eO) (some (x/M)) rfl (λ e=>by cases e<;>rfl) (by omega) ?_;(conv=>whnf)
   rw[j7];(repeat' ((first|(apply AZ;omega)|fail)<;>conv=>whnf))
   exact B0 [] (eh (e+1) (by omega) (by omega))
  have ee:e=p.length:=by omega
  clear eh;rw[ee,zT (by omega),I1 jf];(repeat' ((first|(apply AG<;>intro hc<;>try omega)|(refine D4 (λ_=>rfl) rfl ?_ ?_;(first|rfl|simp))|apply AE)<;>conv=>whnf))
  exact AU rfl (by
   simp only[A6,C6,and_true,true_and];exact ⟨⟨CQ _,CQ _⟩,EY _⟩)
theorem Oy (N:y9 L) (m:Nat) (hm:m<=65536):FR L 273 [.int .i64 (m:Int)] 3 ((List.replicate m (0:Rat)).map eQ):=by
 have hO:=KA N.toa6 0 (by omega);refine FR.x N.LL rfl rfl ?_;(repeat' (apply AE<;>conv=>whnf))
 refine EM (enc:=eO) none m rfl rfl (by omega) ?_;(conv=>whnf)
 skip
 refine ES (λ i=>m-i) (λ(i:Nat)=>i<=m) (λ i=>[(9,.int .i64 i)]) (λ i=>[(6,6,.rw 3 ((EK (List.replicate i 0) m).map eO))]) [] [] 0 (by first|exact (by (conv=>whnf);exact ⟨rfl,rfl,rfl⟩)|(rw[<-I2];exact (by (conv=>whnf);exact ⟨rfl,rfl,rfl⟩))) (by omega) ?_;intro i p1 ih;by_cases hi:i<m
 ·have hl:=IM (l:=List.replicate i (0:Rat)) (m:=m) (by simp;omega)
  have hs:=I3 (l:=List.replicate i (0:Rat)) (m:=m) (x:=0) (by simp;omega);rw[List.length_replicate]at hs;(repeat' ((first|(apply AG<;>intro hc<;>try omega)|(apply A3;omega)|apply AE|refine AC (hO) ?_)<;>conv=>whnf))
  refine F3 (enc:=eO) (some 0) rfl (λ e=>by cases e<;>rfl) (by omega) ?_;(conv=>whnf)
  (repeat' ((first|(apply AZ;omega)|fail)<;>conv=>whnf))
  rw[hs];rw[show List.replicate i (0:Rat)++[0]=List.replicate (i+1) 0 by rw[List.replicate_succ']];exact B0 [] (ih (i+1) (by omega) (by omega))
 obtain rfl:i=m:=by omega
 clear ih;rw[I1 (by simp)];(repeat' ((first|(apply AG<;>intro hc<;>try omega)|apply AE)<;>conv=>whnf))
 exact ⟨rfl,rfl,by simp,rfl,EY _⟩
theorem nL {k:Nat} {p:List Rat} (h:Bs k p) (hl:p.length<=12):Bt (4096*k) (DR p):=by
 have:=W9 h p.length
 rw[List.take_length]at this;refine this.le (zR k ?_);have:2^p.length<=2^12:=Nat.pow_le_pow_right (by omega) hl
 omega
theorem T3 (N:y9 L) (q1 q2:Bool) (p r:List Rat) (k:Nat) (hp:BQ p=p) (hr:BQ r=r) (lp:p.length<=12) (lr:r.length<=12) (bp:Bs k p) (br:Bs k r) (hk:k<=100000) :
  ∃ R:List Rat,(∀ K,R.getD K 0=EB p r K)/\R.length<=24/\Bs (2000000*k+1000) R/\Ev L 274 [.sl q1 (p.map eQ),.sl q2 (r.map eQ)] (.sl false ((BQ R).map eQ)):=by
 have z7:=kP N.toaj q1 p k hp lp bp (by omega);have z8:=kP N.toaj q2 r k hr lr br (by omega);by_cases h0:p.length=0\/r.length=0
 ·refine ⟨[],λ K => ?_,by simp,⟨λ x h=>absurd h (by simp),?_⟩⟩
  ·rw[List.getD_nil]
   rcases h0 with h|h
   ·rw[List.length_eq_zero_iff.1 h,UN]
   ·rw[List.length_eq_zero_iff.1 h,oC]
  ·rw[show BQ []=[] from rfl,List.map_nil]
   have l1:(p.map (· / DR p)).length=p.length:=List.length_map ..;have l2:(r.map (· / DR r)).length=r.length:=List.length_map ..;generalize p.map (· / DR p)=u at *;generalize r.map (· / DR r)=w at *;generalize DR p=P at *;generalize DR r=R at *;refine Ev.x N.I7 rfl rfl ?_;rcases h0 with h|h
   ·(repeat' ((first|(apply AG<;>intro hc<;>try omega)|apply AR|apply AE|refine AC (z7) ?_|refine AC (z8) ?_)<;>conv=>whnf))
    exact AU rfl (by simp only[A6,true_and];trivial)
   ·(repeat' ((first|(apply AG<;>intro hc<;>try omega)|apply AR|apply AE|refine AC (z7) ?_|refine AC (z8) ?_)<;>conv=>whnf))
    all_goals exact AU rfl (by simp only[A6,true_and];trivial)
 have oc:0<p.length/\0<r.length:=by omega
 have hP:DR p≠0:=(bL hp).resolve_left (λ h=>by rw[h]at oc;exact absurd oc.1 (by simp));have hR:DR r≠0:=(bL hr).resolve_left (λ h=>by rw[h]at oc;exact absurd oc.2 (by simp));have bP:=nL bp lp;have bR:=nL br lr;have Iw:=λ K=>Tn hP hR p r K
 have l1:(p.map (· / DR p)).length=p.length:=List.length_map ..;have l2:(r.map (· / DR r)).length=r.length:=List.length_map ..;have b1:Bs (4097*k) (p.map (· / DR p)):=λ y hy=>by
  obtain ⟨z,hz,rfl⟩:=List.mem_map.1 hy;exact ((bp z hz).nv bP).le (by omega)
 have b2:Bs (4097*k) (r.map (· / DR r)):=λ y hy=>by
  obtain ⟨z,hz,rfl⟩:=List.mem_map.1 hy;exact ((br z hz).nv bR).le (by omega)
 generalize p.map (· / DR p)=u at *;generalize r.map (· / DR r)=w at *;generalize DR p=P at *;generalize DR r=R at *;generalize hn:u.length=n at *;generalize hm:w.length=m at *;have hz:=List.length_replicate (n:=n+m-1) (a:=(0:Rat));have Jn:=Bs.Bv 0 (n+m-1);have bu:=λ K=>Tb (n+m-1) K
 have hZ:=Oy N (n+m-1) (by omega);have Xk:=OQ N.toa6 bP bR (by omega) (by omega);have Ho:Bt (8192*k) (P*R):=(bP.mul bR).le (by omega);generalize P*R=S at *;generalize List.replicate (n+m-1) (0:Rat)=z at *;have ib : ∀ x∈u,∀ y∈w,Bt (8194*k) (x*y):=λ x hx y hy=>((b1 x hx).mul (b2 y hy)).le (by omega)
 have um : ∀ i j,i<=n->j<=m->i*(m*(8194*k+1))+j*(8194*k+1)<=156*(8194*k+1):=λ i j hi hj=>by
  have h1:i*(m*(8194*k+1))<=12*(12*(8194*k+1)):=Nat.mul_le_mul (by omega) (zR _ (by omega));have h2:j*(8194*k+1)<=12*(8194*k+1):=zR _ (by omega);omega
 have vz : ∀ i,i<=n->Bs (156*(8194*k+1)) (GN z 0 (u.take i) w):=λ i hi=>by
  have:=bT w (u.take i) z 0 0 (λ x hx=>ib x (List.mem_of_mem_take hx)) Jn
  rw[List.length_take,hn,Nat.min_eq_left hi,hm,Nat.zero_add]at this;intro y hy;exact (this y hy).le (by have:=um i 0 hi (Nat.zero_le _);omega)
 have Im : ∀ i j x,i<=n->j<=m->x∈u->Bs (156*(8194*k+1)) (GW (GN z 0 (u.take i) w) i x (w.take j)):=λ i j x hi hj hx=>by
  have h1:=bT w (u.take i) z 0 0 (λ x hx=>ib x (List.mem_of_mem_take hx)) Jn;have:=Y0 x (w.take j) _ i _ (λ y hy=>ib x hx y (List.mem_of_mem_take hy)) h1
  rw[List.length_take,List.length_take,hn,hm,Nat.min_eq_left hi,Nat.min_eq_left hj,Nat.zero_add]at this;intro y hy;exact (this y hy).le (um i j hi hj)
 have eg:(GN z 0 u w).length=n+m-1:=by rw[bU,hz]
 have Ez:=vz n (Nat.le_refl _);rw[zT (Nat.le_of_eq hn)]at Ez;have Dv:=λ q=>kA N.toy5 q (GN z 0 u w) S (156*(8194*k+1)) (8192*k) Ez Ho (by omega) (by omega)
 refine ⟨(GN z 0 u w).map (· * S),λ K => ?_,by rw[List.length_map,eg];omega,?_,?_⟩
 ·rw[Iw K,Re,oA _ _ _ _ _ (by rw[hz];omega),if_pos (Nat.zero_le _),Nat.sub_zero,bu]
  grind
 ·intro y hy
  obtain ⟨x,hx,rfl⟩:=List.mem_map.1 hy;exact ((Ez x hx).mul Ho).le (by omega)
 clear Iw bu;refine Ev.x N.I7 rfl rfl ?_;(repeat' ((first|(apply AG<;>intro hc<;>try omega)|(apply AZ;omega)|(apply BX;omega)|apply AR|apply AE|refine AC (z7) ?_|refine AC (z8) ?_)<;>conv=>whnf))
 rw[show (u.length:Int)+(w.length:Int)-1=((n+m-1:Nat):Int) by omega];refine D5 (enc:=eQ) (n+m-1) hZ hz.symm ?_;(conv=>whnf)
 (repeat' (apply AR<;>conv=>whnf))
 refine ES (λ i=>n-i) (λ(i:Nat)=>i<=n) (λ i=>[(41,.int .i64 i)]) (λ i=>[(38,38,.rw 3 ((GN z 0 (u.take i) w).map eQ))]) [] [] 0 (by first|exact (by (conv=>whnf);exact ⟨rfl,rfl,rfl⟩)|(rw[List.take_zero];exact (by (conv=>whnf);exact ⟨rfl,rfl,rfl⟩))) (by omega) ?_;intro i g1 ih;by_cases hi:i<n
 ·obtain ⟨x,hx⟩ : ∃ x,u[i]? = some x:=⟨_,zE (by omega)⟩
  have gi:u[(i:Int).toNat]? = some x:=hx;have Cw:=oB w x (u.take i) z 0;rw[<-RE hx,List.length_take,hn,Nat.min_eq_left (by omega),Nat.zero_add]at Cw;have Fe:=λ j hj=>Im i j x (by omega) hj (zM hx)
  have ya:=bU w (u.take i) z 0;rw[hz]at ya;generalize GN z 0 (u.take i) w=A at *;(repeat' ((first|(apply AG<;>intro hc<;>try omega)|apply AR|(refine BL (by assumption) ?_ rfl ?_;omega)|apply AE)<;>conv=>whnf))
  refine ES (λ j=>m-j) (λ(j:Nat)=>j<=m) (λ j=>[(48,.int .i64 j)]) (λ j=>[(38,38,.rw 3 ((GW A i x (w.take j)).map eQ))]) [] [] 0 (by first|exact (by (conv=>whnf);exact ⟨rfl,rfl,rfl⟩)|(rw[List.take_zero];exact (by (conv=>whnf);exact ⟨rfl,rfl,rfl⟩))) (by omega) ?_;intro j g2 jh;by_cases hj:j<m
  ·obtain ⟨y,hy⟩ : ∃ y,w[j]? = some y:=⟨_,zE (by omega)⟩
   have ti:w[(j:Int).toNat]? = some y:=hy;have ql:=fI x y (w.take j) A i;rw[<-RE hy,List.length_take,hm,Nat.min_eq_left (by omega)]at ql;have Aa:=Fe j (by omega);have sd:=V4 x (w.take j) A i;rw[ya]at sd;generalize GW A i x (w.take j)=V at *;obtain ⟨v0,Gr⟩ : ∃ v,V[i+j]? = some v:=⟨_,zE (by omega)⟩;rw[G9 Gr]at ql;have hM:=OQ N.toa6 (b1.at hx) (b2.at hy) (by omega) (by omega);have Ds:=QM N.toa6 (Aa.at Gr) ((b1.at hx).mul (b2.at hy)) (by omega) (by omega);have hA : ∀ v,V[((i:Int)+(j:Int)).toNat]? = some v->Ev L 98 [.agg (eQ v),.agg (eQ (x*y))] (.agg (eQ (v0+x*y))):=λ v h=>by
    rw[show ((i:Int)+(j:Int)).toNat=i+j by omega]at h;obtain rfl:=Option.some.inj (Gr.symm.trans h);exact Ds
   (repeat' ((first|(apply AG<;>intro hc<;>try omega)|(apply A3;omega)|(apply AZ;omega)|(refine BL (by assumption) ?_ rfl ?_;omega)|(refine TA ?_ (λ_=>rfl) (λ v hv => ?_);omega)|apply AE|refine AC (hM) ?_|refine AC (hA _ hv) ?_)<;>conv=>whnf))
   refine TG (enc:=eQ) (i+j) (v0+x*y) (by omega) rfl (λ_=>rfl) (by omega) ?_;(conv=>whnf)
   rw[<-ql];(repeat' ((first|(apply AZ;omega)|fail)<;>conv=>whnf))
   exact B0 [] (jh (j+1) (by omega) (by omega))
  ·obtain rfl:j=m:=by omega
   clear jh;rw[zT (by omega),<-Cw];(repeat' ((first|(apply AG<;>intro hc<;>try omega)|(apply AZ;omega)|apply AE)<;>conv=>whnf))
   exact B0 [] (ih (i+1) (by omega) (by omega))
 ·obtain rfl:i=n:=by omega
  clear ih;rw[zT (by omega)];(repeat' ((first|(apply AG<;>intro hc<;>try omega)|apply AE|refine AC (Xk) ?_)<;>conv=>whnf))
  refine D4 (enc:=eQ) (λ_=>rfl) rfl eg.symm ?_;(conv=>whnf)
  (repeat' (refine AC (Dv _) ?_<;>conv=>whnf))
  refine AU rfl ?_;simp only[A6,true_and];exact EY _
theorem W1 (N:k6 L) (m:Nat) (hm:m<=65536):FR L 206 [.int .i64 (m:Int)] 3 ((List.replicate m (0:Rat)).map eQ)/\Ev L 206 [.int .i64 (m:Int)] (.sl false ((List.replicate m (0:Rat)).map eQ)):=by
 have hO:=KA N.toa6 0 (by omega);refine FR.x2 N.JJ rfl rfl (λ_=>rfl) ?_;(repeat' (apply AE<;>conv=>whnf))
 refine EM (enc:=eO) none m rfl rfl (by omega) ?_;(conv=>whnf)
 skip
 refine ES (λ i=>m-i) (λ(i:Nat)=>i<=m) (λ i=>[(8,.int .i64 i)]) (λ i=>[(6,6,.rw 3 ((EK (List.replicate i 0) m).map eO))]) [] [] 0 (by first|exact (by (conv=>whnf);exact ⟨rfl,rfl,rfl⟩)|(rw[<-I2];exact (by (conv=>whnf);exact ⟨rfl,rfl,rfl⟩))) (by omega) ?_;intro i p1 ih;by_cases hi:i<m
 ·have hl:=IM (l:=List.replicate i (0:Rat)) (m:=m) (by simp;omega)
  have hs:=I3 (l:=List.replicate i (0:Rat)) (m:=m) (x:=0) (by simp;omega);rw[List.length_replicate]at hs;(repeat' ((first|(apply AG<;>intro hc<;>try omega)|(apply A3;omega)|apply AE|refine AC (hO) ?_)<;>conv=>whnf))
  refine F3 (enc:=eO) (some 0) rfl (λ e=>by cases e<;>rfl) (by omega) ?_;(conv=>whnf)
  (repeat' ((first|(apply AZ;omega)|fail)<;>conv=>whnf))
  rw[hs];rw[show List.replicate i (0:Rat)++[0]=List.replicate (i+1) 0 by rw[List.replicate_succ']];exact B0 [] (ih (i+1) (by omega) (by omega))
 obtain rfl:i=m:=by omega
 clear ih;rw[I1 (by simp)];(repeat' ((first|(apply AG<;>intro hc<;>try omega)|apply AE)<;>conv=>whnf))
 exact ⟨rfl,rfl,by simp,rfl,EY _⟩
theorem N3 (N:q8 L) (n1:L.num 95=SF) (q:Bool) (b:List Rat) (k:Nat) (hb:Bs k b) (hk:k<2199023255552) (hn:b.length<=100):FR L 370 [.sl q (b.map eQ)] 3 (b.map eQ)/\Ev L 370 [.sl q (b.map eQ)] (.sl false (b.map eQ)):=by
 refine FR.x2 N.NE rfl rfl (λ_=>rfl) ?_;(repeat' (apply AE<;>conv=>whnf))
 refine FC 1000 N.JI rfl rfl ?_;(repeat' ((first|apply AR|apply AE)<;>conv=>whnf))
 refine EM (enc:=eO) none b.length rfl rfl (by omega) ?_;(conv=>whnf)
 (repeat' (apply AR<;>conv=>whnf))
 refine ES (λ e=>b.length-e) (λ(e:Nat)=>e<=b.length) (λ e=>[(13,.int .i64 e)]) (λ e=>[(369010,369010,.rw 3 ((EK (b.take e) b.length).map eO))]) [] [] 0 (by first|exact (by (conv=>whnf);exact ⟨rfl,rfl,rfl⟩)|(rw[List.take_zero,<-I2];exact (by (conv=>whnf);exact ⟨rfl,rfl,rfl⟩))) (by omega) ?_;intro e p2 eh;have uk:=IM (l:=b.take e) (m:=b.length) (by rw[List.length_take];omega);by_cases wq:e<b.length
 ·obtain ⟨x,hx⟩ : ∃ x,b[e]? = some x:=⟨_,zE (by omega)⟩
  have gi:b[(e:Int).toNat]? = some x:=hx;have j7:=I3 (l:=b.take e) (m:=b.length) (x:=x) (by rw[List.length_take];omega);rw[List.length_take,Nat.min_eq_left (by omega),<-RD hx]at j7;have hT:=T5 N.toa6 (hb.at hx) hk;generalize EK (b.take e) b.length=F0 at *;(repeat' ((first|(apply AG<;>intro hc<;>try omega)|(apply A3;omega)|(refine BL (by assumption) ?_ rfl ?_;omega)|apply AE|refine AC (hT) ?_)<;>conv=>whnf))
  refine F3 (enc:=eO) (some x) rfl (λ e=>by cases e<;>rfl) (by omega) ?_;(conv=>whnf)
  rw[j7];(repeat' ((first|(apply AZ;omega)|fail)<;>conv=>whnf))
  exact B0 [] (eh (e+1) (by omega) (by omega))
 have ee:e=b.length:=by omega
 clear eh;rw[ee,zT (by omega),I1 rfl];(repeat' ((first|(apply AG<;>intro hc<;>try omega)|apply AE)<;>conv=>whnf))
 refine ⟨rfl,_,rfl,?_⟩;(conv=>whnf)
 skip
 exact ⟨rfl,rfl,by simp,rfl,EY _⟩
theorem kN (N:q8 L) (q:Bool) (b:List Rat) (c:Rat) (k:Nat) (hb:Bs k b) (hc:Bt k c) (hk:k<1000000000) (hn:b.length<=100):FR L 372 [.sl q (b.map eQ),.agg (eQ c)] 3 ((b.map (· * c)).map eQ)/\Ev L 372 [.sl q (b.map eQ),.agg (eQ c)] (.sl false ((b.map (· * c)).map eQ)):=by
 have dk:(b.map (· * c)).length=b.length:=List.length_map ..;have Ye : ∀ e x,b[e]? = some x->(b.map (· * c))[e]? = some (x*c):=λ e x h=>by rw[List.getElem?_map,h];rfl
 generalize b.map (· * c)=B at *;refine FR.x2 N.NC rfl rfl (λ_=>rfl) ?_;(repeat' (apply AE<;>conv=>whnf))
 refine FC 1000 N.JI rfl rfl ?_;(repeat' ((first|apply AR|apply AE)<;>conv=>whnf))
 refine EM (enc:=eO) none b.length rfl rfl (by omega) ?_;(conv=>whnf)
 (repeat' (apply AR<;>conv=>whnf))
 refine ES (λ e=>b.length-e) (λ(e:Nat)=>e<=b.length) (λ e=>[(13,.int .i64 e)]) (λ e=>[(369010,369010,.rw 3 ((EK (B.take e) b.length).map eO))]) [] [] 0 (by first|exact (by (conv=>whnf);exact ⟨rfl,rfl,rfl⟩)|(rw[List.take_zero,<-I2];exact (by (conv=>whnf);exact ⟨rfl,rfl,rfl⟩))) (by omega) ?_;intro e p2 eh;have uk:=IM (l:=B.take e) (m:=b.length) (by rw[List.length_take];omega);by_cases wq:e<b.length
 ·obtain ⟨x,hx⟩ : ∃ x,b[e]? = some x:=⟨_,zE (by omega)⟩
  have gi:b[(e:Int).toNat]? = some x:=hx;have hX:=Ye e x hx;have j7:=I3 (l:=B.take e) (m:=b.length) (x:=x*c) (by rw[List.length_take];omega);rw[List.length_take,Nat.min_eq_left (by omega),<-RD hX]at j7;have hT:=OQ N.toa6 (hb.at hx) hc (by omega) (by omega);generalize EK (B.take e) b.length=F0 at *;generalize x*c=y at *;(repeat' ((first|(apply AG<;>intro hc<;>try omega)|(apply A3;omega)|(refine BL (by assumption) ?_ rfl ?_;omega)|apply AE)<;>conv=>whnf))
  refine FD 1000 N.ND rfl rfl ?_;(repeat' ((first|apply AE|refine AC (hT) ?_)<;>conv=>whnf))
  refine ⟨rfl,?_⟩;(conv=>whnf)
  (repeat' ((first|(apply A3;omega)|fail)<;>conv=>whnf))
  refine F3 (enc:=eO) (some y) rfl (λ e=>by cases e<;>rfl) (by omega) ?_;(conv=>whnf)
  rw[j7];(repeat' ((first|(apply AZ;omega)|fail)<;>conv=>whnf))
  exact B0 [] (eh (e+1) (by omega) (by omega))
 have ee:e=b.length:=by omega
 clear eh;rw[ee,zT (by omega),I1 dk];(repeat' ((first|(apply AG<;>intro hc<;>try omega)|apply AE)<;>conv=>whnf))
 refine ⟨rfl,_,rfl,?_⟩;(conv=>whnf)
 skip
 exact ⟨rfl,rfl,by simp [dk],rfl,EY _⟩
theorem W2 (N:k6 L) (n:Nat) (hn:n<=65536):FR L 210 [.int .i64 (n:Int)] 3 ((List.replicate n (0:Rat)).map eQ)/\Ev L 210 [.int .i64 (n:Int)] (.sl false ((List.replicate n (0:Rat)).map eQ)):=by
 have hO:=kI N.tob8 0 (by omega);refine FR.x2 N.MX rfl rfl (λ_=>rfl) ?_;(repeat' (apply AE<;>conv=>whnf))
 refine ED (λ i=>n-i) (λ(i:Nat)=>i<=n) (λ i=>[(4,.int .i64 i),(3,.row 3 0 3 0 i)]) (λ i=>[(3,3,.rw 3 ((List.replicate i (0:Rat)).map eQ))]) 0 (by omega) ?_;intro i p1 ih;have hlen:(List.replicate i (0:Rat)).length=i:=by simp
 by_cases hi:i<n
 ·have kn:List.replicate (i+1) (0:Rat)=List.replicate i 0++[((0:Int):Rat)]:=List.replicate_succ'
  (repeat' ((first|(apply AG<;>intro hc<;>try omega)|apply EN|apply AE|refine AC (hO) ?_)<;>conv=>whnf))
  refine GI (enc:=eQ) ((0:Int):Rat) rfl hlen.symm rfl (by omega) (by omega) ?_;(conv=>whnf)
  (repeat' ((first|(apply AZ;omega)|fail)<;>conv=>whnf))
  rw[<-kn,show (List.replicate (i+1) (0:Rat)).length=i+1 by simp];exact B0 [(3,13)] (ih (i+1) (by omega) (by omega))
 ·obtain rfl:i=n:=by omega
  clear ih;(repeat' ((first|(apply AG<;>intro hc<;>try omega)|apply AE)<;>conv=>whnf))
  exact ⟨rfl,rfl,by simp,rfl,EY _⟩
theorem kM (N:q8 L) (S T:B3) (n m k:Nat) (hS:S.Ok n k) (hT:T.Ok m k) (hn:n<=8) (hm:m<=8):Ev L 373 [.agg (eS S),.agg (eS T)] (.int .i64 0):=by
 have z7:=Z0 N.too6 S n k hS (by omega);have z8:=Z0 N.too6 T m k hT (by omega);have yl:=hS.la;have Fj:=hT.la;refine Ev.x N.NA rfl rfl ?_;(repeat' ((first|(apply AG<;>intro hc<;>try omega)|(apply AZ;omega)|apply AR|apply AE|refine AC (z7) ?_|refine AC (z8) ?_)<;>conv=>whnf))
 exact C2 rfl
theorem pA {S T:B3} {n m k:Nat} (hS:S.Ok n k) (hT:T.Ok m k):(CU S T).a.length=n+m/\(∀ (i:Nat) (r:List Rat),S.a[i]? = some r->(CU S T).a[i]? = some (r++List.replicate m 0)) /\ ∀ (j:Nat) (r:List Rat),T.a[j]? = some r->(CU S T).a[n+j]? = some (List.replicate n 0++r):=by
 refine ⟨(cC hS hT).la,λ i r hr => ?_,λ j r hr => ?_⟩
 ·have h1:=(zS hr).1
  show ((S.a.map λ r=>r++List.replicate T.a.length 0)++(T.a.map λ r=>List.replicate S.a.length 0++r))[i]? = _;rw[List.getElem?_append_left (by rw[List.length_map];exact h1),List.getElem?_map,hr,hT.la];rfl
 ·show ((S.a.map λ r=>r++List.replicate T.a.length 0)++(T.a.map λ r=>List.replicate S.a.length 0++r))[n+j]? = _
  rw[List.getElem?_append_right (by rw[List.length_map,hS.la];omega),List.length_map,hS.la,show n+j-n=j by omega,List.getElem?_map,hr];rfl
theorem gH : ∀ m:List (List Rat),F9 (m.map λ r=>[AV.sl false (r.map eQ)])
 | []=>by simp [F9]
 | r::m=>by
  rw[List.map_cons,F9];exact ⟨by simp only[C6,A6,true_and,and_true];exact EY r,gH m⟩
theorem Lt (N:q8 L) (n1:L.num 95=SF) (S T:B3) (n m k:Nat) (hS:S.Ok n k) (hT:T.Ok m k) (hn:n<=8) (hm:m<=8) (hk:k<=1000000) (q1 q2 q3 q4:Bool):Ev L 374 [.sl q1 (jC q2 S.a),.sl q3 (jC q4 T.a)] (.sl false (eM (CU S T).a)):=by
 have yl:=hS.la;have Fj:=hT.la;have Ad:=(W1 N.tok6 m (by omega)).2;have px:=(W1 N.tok6 n (by omega)).1;rw[show ((m:Nat):Int)=(T.a.length:Int) by omega]at Ad;rw[show ((n:Nat):Int)=(S.a.length:Int) by omega]at px;obtain ⟨uc,Dt,Cb⟩:=pA hS hT;generalize (CU S T).a=P at *;refine Ev.x N.JH rfl rfl ?_;(repeat' ((first|apply AR|apply AE)<;>conv=>whnf))
 refine dX 374005 374005 rfl ?_;refine ES (λ i=>n-i) (λ(i:Nat)=>i<=n) (λ i=>[(12,.int .i64 i),(5,.row 374005 0 1 0 i)]) (λ i=>[(374005,374005,.mx (DH 3 eQ (P.take i)))]) [] [] 0 (by first|exact (by (conv=>whnf);exact ⟨rfl,rfl,rfl⟩)|(rw[List.take_zero];exact (by (conv=>whnf);exact ⟨rfl,rfl,rfl⟩))) (by omega) ?_;intro i p1 ih;have Gn:(P.take i).length=i:=by rw[List.length_take];omega
 by_cases hi:i<n
 ·obtain ⟨r,hr⟩ : ∃ r,S.a[i]? = some r:=⟨_,zE (by omega)⟩
  have yu:S.a[(i:Int).toNat]? = some r:=hr;have cg:=hS.lr r (zM hr);have pq:=λ q=>(N3 N n1 q r k (hS.ba r (zM hr)) (by omega) (by omega)).1
  have xn:=VE (Dt i r hr);have nb:(P.take (i+1)).length=i+1:=by rw[List.length_take];omega
  (repeat' ((first|(apply AG<;>intro hc<;>try omega)|(refine BL (by assumption) ?_ rfl ?_;omega)|apply AE)<;>conv=>whnf))
  refine D5 (enc:=eQ) n (pq _) cg.symm ?_;(conv=>whnf)
  (repeat' ((first|apply AR|refine AC (Ad) ?_)<;>conv=>whnf))
  refine NM (enc:=eQ) cg.symm (λ_=>rfl) (by rw[cg,List.length_replicate];omega) (by rw[cg,List.length_replicate];omega) ?_;(conv=>whnf)
  skip
  refine A3 (by rw[List.length_map]) ?_;refine S5 (r:=r++List.replicate m 0) (en:=eQ) Gn.symm (by omega) (by omega) ?_;rw[<-xn,nb];(conv=>whnf)
  (repeat' ((first|(apply AZ;omega)|fail)<;>conv=>whnf))
  exact B0 [(374005,374024)] (ih (i+1) (by omega) (by omega))
 have ei:i=n:=by omega
 clear ih;rw[ei];(repeat' ((first|(apply AG<;>intro hc<;>try omega)|apply AR|apply AE)<;>conv=>whnf))
 refine ED (λ j=>m-j) (λ(j:Nat)=>j<=m) (λ j=>[(28,.int .i64 j),(5,.row 374005 0 1 0 (n+j))]) (λ j=>[(374005,374005,.mx (DH 3 eQ (P.take (n+j))))]) 0 (by omega) ?_;intro j p3 jh;have xm:(P.take (n+j)).length=n+j:=by rw[List.length_take];omega
 by_cases hj:j<m
 ·obtain ⟨r,hr⟩ : ∃ r,T.a[j]? = some r:=⟨_,zE (by omega)⟩
  have yu:T.a[(j:Int).toNat]? = some r:=hr;have cg:=hT.lr r (zM hr);have pq:=λ q=>(N3 N n1 q r k (hT.ba r (zM hr)) (by omega) (by omega)).2
  have xn:=VE (Cb j r hr);have nb:(P.take (n+(j+1))).length=n+(j+1):=by rw[List.length_take];omega
  (repeat' ((first|(apply AG<;>intro hc<;>try omega)|apply AR|(refine BL (by assumption) ?_ rfl ?_;omega)|apply AE)<;>conv=>whnf))
  refine D5 (enc:=eQ) n px (by rw[List.length_replicate]) ?_;(conv=>whnf)
  (repeat' (refine AC (pq _) ?_<;>conv=>whnf))
  refine NM (enc:=eQ) (by rw[List.length_replicate]) (λ_=>rfl) (by rw[cg,List.length_replicate];omega) (by rw[cg,List.length_replicate];omega) ?_;(conv=>whnf)
  skip
  refine A3 (by rw[List.length_map]) ?_;refine S5 (r:=List.replicate n 0++r) (en:=eQ) xm.symm (by omega) (by omega) ?_;rw[<-xn,show (P.take (n+j+1)).length=n+(j+1) from nb,show n+j+1=n+(j+1) from rfl];(conv=>whnf)
  (repeat' ((first|(apply AZ;omega)|fail)<;>conv=>whnf))
  exact B0 [(374005,374040)] (jh (j+1) (by omega) (by omega))
 have ej:j=m:=by omega
 clear jh;rw[ej,zT (by omega)];(repeat' ((first|(apply AG<;>intro hc<;>try omega)|apply AE)<;>conv=>whnf))
 (refine V1 (λ_=>rfl) rfl uc.symm ?_;(conv=>whnf);exact AU rfl (by simp only[A6,true_and];exact gH _))
theorem Ll (N:q8 L) (n1:L.num 95=SF) (S T:B3) (n m k:Nat) (hS:S.Ok n k) (hT:T.Ok m k) (hn:n<=8) (hm:m<=8) (hk:k<=1000000) :
  Ev L 376 [.agg (eS S),.agg (eS T)] (.j4 [.agg (eS (CU S T)),.int .i64 0]):=by
 have hB:=kM N S T n m k hS hT hn hm;have yl:=hS.la;have Fj:=hT.la;have Wv:=λ q1 q2 q3 q4=>Lt N n1 S T n m k hS hT hn hm hk q1 q2 q3 q4
 have dk:=hS.lb;have sn:=hT.lb;have j6:=hS.lc;have gu:=hT.lc;have Aa:=λ q=>(N3 N n1 q S.b k hS.bb (by omega) (by omega)).1
 have vq:=λ q=>(N3 N n1 q T.b k hT.bb (by omega) (by omega)).2
 have Dz:=λ q=>(N3 N n1 q S.c k hS.bc (by omega) (by omega)).1
 have vt:=λ q=>(N3 N n1 q T.c k hT.bc (by omega) (by omega)).2
 have zs:=QM N.toa6 hS.bd hT.bd (by omega) (by omega);have gd:=TP (CU S T) 0;have hE:eS (CU S T)=[.sl false (eM (CU S T).a),.sl false ((S.b++T.b).map eQ),.sl false ((S.c++T.c).map eQ)]++eQ (S.d+T.d):=rfl;rw[hE]at gd ⊢;generalize (CU S T).a=P at *;generalize S.d+T.d=dd at *;refine Ev.x N.M7 rfl rfl ?_;(repeat' ((first|(apply AG<;>intro hc<;>try omega)|apply AE|refine AC (hB) ?_|refine AC (Wv _ _ _ _) ?_)<;>conv=>whnf))
 refine D5 (enc:=eQ) n (Aa _) dk.symm ?_;(conv=>whnf)
 (repeat' (refine AC (vq _) ?_<;>conv=>whnf))
 refine NM (enc:=eQ) dk.symm (λ_=>rfl) (by rw[dk,sn];omega) (by rw[dk,sn];omega) ?_;(conv=>whnf)
 skip
 refine D5 (enc:=eQ) n (Dz _) j6.symm ?_;(conv=>whnf)
 (repeat' (refine AC (vt _) ?_<;>conv=>whnf))
 refine NM (enc:=eQ) j6.symm (λ_=>rfl) (by rw[j6,gu];omega) (by rw[j6,gu];omega) ?_;(conv=>whnf)
 (repeat' ((first|(refine D4 (λ_=>rfl) rfl ?_ ?_;(first|rfl|simp))|refine AC (zs) ?_)<;>conv=>whnf))
 exact AU rfl gd
theorem Vm {α:Type} {l:List α} {i:Nat} {x:α} (h:l[i]? = some x):l.set i x=l:=by
 refine List.ext_getElem? λ j => ?_
 rw[List.getElem?_set];by_cases e:i=j
 ·subst e
  rw[if_pos rfl,if_pos (zS h).1,h]
 ·rw[if_neg e]
theorem oG {z:Nat} {r:List Rat} (l:List (List Rat)) (i:Nat):(DH z eQ l).set i (some (z,r.map eQ))=DH z eQ (l.set i r):=by
 rw[DH,DH,List.map_set]
theorem Px {a b:List (List Rat)} {i:Nat} {x:List Rat} (h:a[i]? = some x) (hb:i<b.length):(a.take i++b.drop i).set i x=a.take (i+1)++b.drop (i+1):=by
 have hl:=(zS h).1;have ht:(a.take i).length=i:=by rw[List.length_take];omega
 rw[List.set_append_right _ _ (by omega),ht,Nat.sub_self,List.drop_eq_getElem_cons hb,List.set_cons_zero,List.take_add_one,h,List.append_assoc];rfl
theorem Pw {α:Type} {a b:List α} {i:Nat} (hl:i<=a.length):(a.take i++b.drop i)[i]? = b[i]? := by
 rw[List.getElem?_append_right (by rw[List.length_take];omega),List.length_take,Nat.min_eq_left hl,Nat.sub_self,List.getElem?_drop,Nat.add_zero]
theorem nQ {α:Type} {a b:List α} {j:Nat} (hl:a.length=b.length) (hj:j<=b.length):(a.take j++b.drop j).length=b.length:=by
 rw[List.length_append,List.length_take,List.length_drop];omega
theorem Vk {S T:B3} {n m k:Nat} (hS:S.Ok n k) (hT:T.Ok m k):(CZ S T).a.length=n+m/\(CZ S T).a.take n=(CU S T).a.take n /\ ∀ (j:Nat) (b:Rat) (r:List Rat),T.b[j]? = some b->T.a[j]? = some r->(CZ S T).a[n+j]? = some (S.c.map (b * ·)++r):=by
 have hl:(S.a.map λ r=>r++List.replicate T.a.length 0).length=n:=by rw[List.length_map,hS.la]
 refine ⟨(cV hS hT).la,?_,λ j b r hb hr => ?_⟩
 ·show ((S.a.map λ r=>r++List.replicate T.a.length 0)++IL S T).take n=((S.a.map λ r=>r++List.replicate T.a.length 0)++(T.a.map λ r=>List.replicate S.a.length 0++r)).take n
  rw[List.take_append_of_le_length (by omega),List.take_append_of_le_length (by omega)]
 ·show ((S.a.map λ r=>r++List.replicate T.a.length 0)++IL S T)[n+j]? = _
  rw[List.getElem?_append_right (by omega),hl,show n+j-n=j by omega,kW hb hr]
theorem Lp (N:q8 L) (n1:L.num 95=SF) (S T:B3) (n m k:Nat) (hS:S.Ok n k) (hT:T.Ok m k) (hn:n<=8) (hm:m<=8) (hk:k<=1000000) :
  Ev L 375 [.agg (eS S),.agg (eS T)] (.j4 [.agg (eS (CZ S T)),.int .i64 0]):=by
 have hB:=kM N S T n m k hS hT hn hm;have yl:=hS.la;have Fj:=hT.la;have Ad:=(W1 N.tok6 m (by omega)).2;have px:=(W1 N.tok6 n (by omega)).1;rw[show ((m:Nat):Int)=(T.a.length:Int) by omega]at Ad;rw[show ((n:Nat):Int)=(S.a.length:Int) by omega]at px;have dk:=hS.lb;have sn:=hT.lb;have j6:=hS.lc;have gu:=hT.lc;have Aa:=λ q=>(N3 N n1 q S.b k hS.bb (by omega) (by omega)).1
 have vq:=λ q=>(kN N q T.b S.d k hT.bb hS.bd (by omega) (by omega)).2
 have Dz:=λ q=>(kN N q S.c T.d k hS.bc hT.bd (by omega) (by omega)).1
 have vt:=λ q=>(N3 N n1 q T.c k hT.bc (by omega) (by omega)).2
 have Jb:(T.b.map (· * S.d)).length=m:=by rw[List.length_map,sn]
 have yx:(S.c.map (· * T.d)).length=n:=by rw[List.length_map,j6]
 have zs:=OQ N.toa6 hS.bd hT.bd (by omega) (by omega);obtain ⟨uc,Dt,Cb⟩:=pA hS hT;obtain ⟨ya,Wt,xy⟩:=Vk hS hT;have gd:=TP (CZ S T) 0;have hE:eS (CZ S T)=[.sl false (eM (CZ S T).a),.sl false ((S.b++T.b.map (· * S.d)).map eQ),.sl false ((S.c.map (· * T.d)++T.c).map eQ)]++eQ (S.d*T.d):=rfl;rw[hE]at gd ⊢;generalize (CZ S T).a=A at *;generalize (CU S T).a=P at *;generalize S.d*T.d=dd at *;generalize T.b.map (· * S.d)=sb at *;generalize S.c.map (· * T.d)=sc at *;have Gi:P=A.take n++P.drop n:=by rw[Wt,List.take_append_drop]
 refine Ev.x N.M8 rfl rfl ?_;(repeat' ((first|(apply AG<;>intro hc<;>try omega)|apply AE|refine AC (hB) ?_)<;>conv=>whnf))
 refine FC 1000 N.JH rfl rfl ?_;(repeat' ((first|apply AR|apply AE)<;>conv=>whnf))
 refine dX 374005 374005 rfl ?_;refine ES (λ i=>n-i) (λ(i:Nat)=>i<=n) (λ i=>[(12,.int .i64 i),(5,.row 374005 0 1 0 i)]) (λ i=>[(374005,374005,.mx (DH 3 eQ (P.take i)))]) [] [] 0 (by first|exact (by (conv=>whnf);exact ⟨rfl,rfl,rfl⟩)|(rw[List.take_zero];exact (by (conv=>whnf);exact ⟨rfl,rfl,rfl⟩))) (by omega) ?_;intro i p1 ih;have Gn:(P.take i).length=i:=by rw[List.length_take];omega
 by_cases hi:i<n
 ·obtain ⟨r,hr⟩ : ∃ r,S.a[i]? = some r:=⟨_,zE (by omega)⟩
  have yu:S.a[(i:Int).toNat]? = some r:=hr;have cg:=hS.lr r (zM hr);have pq:=λ q=>(N3 N n1 q r k (hS.ba r (zM hr)) (by omega) (by omega)).1
  have xn:=VE (Dt i r hr);have nb:(P.take (i+1)).length=i+1:=by rw[List.length_take];omega
  (repeat' ((first|(apply AG<;>intro hc<;>try omega)|(refine BL (by assumption) ?_ rfl ?_;omega)|apply AE)<;>conv=>whnf))
  refine D5 (enc:=eQ) n (pq _) cg.symm ?_;(conv=>whnf)
  (repeat' ((first|apply AR|refine AC (Ad) ?_)<;>conv=>whnf))
  refine NM (enc:=eQ) cg.symm (λ_=>rfl) (by rw[cg,List.length_replicate];omega) (by rw[cg,List.length_replicate];omega) ?_;(conv=>whnf)
  skip
  refine A3 (by rw[List.length_map]) ?_;refine S5 (r:=r++List.replicate m 0) (en:=eQ) Gn.symm (by omega) (by omega) ?_;rw[<-xn,nb];(conv=>whnf)
  (repeat' ((first|(apply AZ;omega)|fail)<;>conv=>whnf))
  exact B0 [(374005,374024)] (ih (i+1) (by omega) (by omega))
 have ei:i=n:=by omega
 clear ih;rw[ei];(repeat' ((first|(apply AG<;>intro hc<;>try omega)|apply AR|apply AE)<;>conv=>whnf))
 refine ED (λ j=>m-j) (λ(j:Nat)=>j<=m) (λ j=>[(28,.int .i64 j),(5,.row 374005 0 1 0 (n+j))]) (λ j=>[(374005,374005,.mx (DH 3 eQ (P.take (n+j))))]) 0 (by omega) ?_;intro j p3 jh;have xm:(P.take (n+j)).length=n+j:=by rw[List.length_take];omega
 by_cases hj:j<m
 ·obtain ⟨r,hr⟩ : ∃ r,T.a[j]? = some r:=⟨_,zE (by omega)⟩
  have yu:T.a[(j:Int).toNat]? = some r:=hr;have cg:=hT.lr r (zM hr);have pq:=λ q=>(N3 N n1 q r k (hT.ba r (zM hr)) (by omega) (by omega)).2
  have xn:=VE (Cb j r hr);have nb:(P.take (n+(j+1))).length=n+(j+1):=by rw[List.length_take];omega
  (repeat' ((first|(apply AG<;>intro hc<;>try omega)|apply AR|(refine BL (by assumption) ?_ rfl ?_;omega)|apply AE)<;>conv=>whnf))
  refine D5 (enc:=eQ) n px (by rw[List.length_replicate]) ?_;(conv=>whnf)
  (repeat' (refine AC (pq _) ?_<;>conv=>whnf))
  refine NM (enc:=eQ) (by rw[List.length_replicate]) (λ_=>rfl) (by rw[cg,List.length_replicate];omega) (by rw[cg,List.length_replicate];omega) ?_;(conv=>whnf)
  skip
  refine A3 (by rw[List.length_map]) ?_;refine S5 (r:=List.replicate n 0++r) (en:=eQ) xm.symm (by omega) (by omega) ?_;rw[<-xn,show (P.take (n+j+1)).length=n+(j+1) from nb,show n+j+1=n+(j+1) from rfl];(conv=>whnf)
  (repeat' ((first|(apply AZ;omega)|fail)<;>conv=>whnf))
  exact B0 [(374005,374040)] (jh (j+1) (by omega) (by omega))
 have ej:j=m:=by omega
 clear jh;rw[ej,zT (by omega)];(repeat' ((first|(apply AG<;>intro hc<;>try omega)|apply AE)<;>conv=>whnf))
 (refine ⟨rfl,_,rfl,?_⟩;(conv=>whnf);(repeat' (apply AR<;>conv=>whnf)))
 have hw1:n+m<=16:=by omega
 have hw2:n<=n+m:=Nat.le_add_right n m;have hw3 : ∀ i,i<m->n+i<n+m:=λ i h=>Nat.add_lt_add_left h n
 have hw4 : ∀ i,i<=m->n+i<=n+m:=λ i h=>Nat.add_le_add_left h n
 have hw5:n+m=n+m:=rfl;generalize hw:n+m=w at *;clear hw5;refine ES (λ i=>m-i) (λ(i:Nat)=>i<=m) (λ i=>[(27,.int .i64 i)]) (λ i=>[(374005,374005,.mx (DH 3 eQ (A.take (n+i)++P.drop (n+i))))]) [] [] 0 (by rw[Nat.add_zero,<-Gi];exact (by (conv=>whnf);exact ⟨rfl,rfl,rfl⟩)) (by omega) ?_;intro i q1 ih;have Hw:=(nQ (a:=A) (b:=P) (j:=n+i) (ya.trans uc.symm) (by rw[uc];exact hw4 i q1)).trans uc;by_cases hi:i<m
 ·obtain ⟨b,hb⟩ : ∃ b,T.b[i]? = some b:=⟨_,zE (by omega)⟩
  have k8:T.b[(i:Int).toNat]? = some b:=hb;obtain ⟨r,hr⟩ : ∃ r,T.a[i]? = some r:=⟨_,zE (by omega)⟩;have cg:=hT.lr r (zM hr);have Wu:=xy i b r hb hr;have Xj:=Cb i r hr;have yw:=Px (a:=A) (b:=P) Wu (by omega);have hg:(A.take (n+i)++P.drop (n+i))[n+i]? = some (List.replicate n 0++r):=by rw[Pw (by omega)];exact Xj
  have Yj:=hT.bb.at hb;generalize A.take (n+i)++P.drop (n+i)=M at *;have Xg:DH 3 eQ M=(DH 3 eQ M).set (n+i) (some (3,(List.replicate n 0++r).map eQ)):=by rw[oG,Vm hg]
  have Hu:=oG (z:=3) (r:=S.c.map (b * ·)++r) M (n+i);rw[yw,show n+i+1=n+(i+1) from rfl]at Hu;have hMx:(DH 3 eQ M).length=w:=by rw[DH,List.length_map,Hw]
  have Ia:(S.c.map (b * ·)++r).length=w:=by rw[List.length_append,List.length_map,j6,cg,hw]
  have ib:(List.replicate n 0++r).length=w:=by rw[List.length_append,List.length_replicate,cg,hw]
  have Yc : ∀ j c,S.c[j]? = some c->(S.c.map (b * ·)++r)[j]? = some (b*c):=λ j c h=>by
   have h1:=(zS h).1;rw[List.getElem?_append_left (by rw[List.length_map];exact h1),List.getElem?_map,h];rfl
  have my:(S.c.map (b * ·)++r).take n++(List.replicate n 0++r).drop n=S.c.map (b * ·)++r:=by
   rw[List.take_left' (by rw[List.length_map,j6]),List.drop_left' (by rw[List.length_replicate])]
  generalize S.c.map (b * ·)++r=ar at *;generalize List.replicate n 0++r=pr at *;generalize DH 3 eQ M=R at *;(repeat' ((first|(apply AG<;>intro hc<;>try omega)|apply AR|(refine BL (by assumption) ?_ rfl ?_;omega)|apply AE)<;>conv=>whnf))
  refine ES (λ j=>n-j) (λ(j:Nat)=>j<=n) (λ j=>[(35,.int .i64 j)]) (λ j=>[(374005,374005,.mx (R.set (n+i) (some (3,(ar.take j++pr.drop j).map eQ))))]) [] [] 0 (by rw[List.take_zero,List.nil_append,List.drop_zero,<-Xg];exact (by (conv=>whnf);exact ⟨rfl,rfl,rfl⟩)) (by omega) ?_;intro j q2 jh;have Dc:=(nQ (a:=ar) (b:=pr) (j:=j) (Ia.trans ib.symm) (by rw[ib];exact Nat.le_trans q2 hw2)).trans ib;by_cases hj:j<n
  ·obtain ⟨c,hc⟩ : ∃ c,S.c[j]? = some c:=⟨_,zE (by omega)⟩
   have w4:S.c[(j:Int).toNat]? = some c:=hc;have Xh:=OQ N.toa6 Yj (hS.bc.at hc) (by omega) (by omega);have od:=Py (b:=pr) (Ia.trans ib.symm) (Yc j c hc);generalize b*c=bc at *;generalize ar.take j++pr.drop j=cur at *;(repeat' ((first|(apply AG<;>intro hc<;>try omega)|(apply A3;omega)|(apply AZ;omega)|apply AR|(refine BL (by assumption) ?_ rfl ?_;omega)|apply AE)<;>conv=>whnf))
   refine tY (by omega) (by omega) ?_;(conv=>whnf)
   (repeat' (refine AC (Xh) ?_<;>conv=>whnf))
   refine A3 (by rw[List.length_map];omega) ?_;(conv=>whnf)
   refine tX (by omega) (by omega) ?_;(conv=>whnf)
   skip
   refine F3 (enc:=eQ) bc rfl (λ_=>rfl) (by omega) ?_;(conv=>whnf)
   refine uK (by omega) (by rw[List.length_map,List.length_map,List.length_set]) ?_;rw[od];(conv=>whnf)
   (repeat' ((first|(apply AZ;omega)|fail)<;>conv=>whnf))
   exact B0 [] (jh (j+1) (by omega) (by omega))
  have Wr:j=n:=Nat.le_antisymm q2 (Nat.le_of_not_lt hj);clear jh;rw[Wr,my,Hu];(repeat' ((first|(apply AG<;>intro hc<;>try omega)|(apply AZ;omega)|apply AE)<;>conv=>whnf))
  exact B0 [] (ih (i+1) (by omega) (by omega))
 have Wq:i=m:=Nat.le_antisymm q1 (Nat.le_of_not_lt hi);clear ih;rw[Wq,zT (by omega),List.drop_of_length_le (by omega),List.append_nil];(repeat' ((first|(apply AG<;>intro hc<;>try omega)|apply AE)<;>conv=>whnf))
 refine D5 (enc:=eQ) n (Aa _) dk.symm ?_;(conv=>whnf)
 (repeat' (refine AC (vq _) ?_<;>conv=>whnf))
 refine NM (enc:=eQ) dk.symm (λ_=>rfl) (by rw[dk,Jb];omega) (by rw[dk,Jb];omega) ?_;(conv=>whnf)
 skip
 refine D5 (enc:=eQ) n (Dz _) yx.symm ?_;(conv=>whnf)
 (repeat' (refine AC (vt _) ?_<;>conv=>whnf))
 refine NM (enc:=eQ) yx.symm (λ_=>rfl) (by rw[yx,gu];omega) (by rw[yx,gu];omega) ?_;(conv=>whnf)
 (repeat' (refine AC (zs) ?_<;>conv=>whnf))
 refine V1 (λ_=>rfl) rfl ya.symm ?_;(conv=>whnf)
 refine D4 (enc:=eQ) (λ_=>rfl) rfl rfl ?_;(conv=>whnf)
 refine D4 (enc:=eQ) (λ_=>rfl) rfl rfl ?_;(conv=>whnf)
 exact AU rfl gd
theorem Ov (N:y5 L) (q1 q2:Bool) (p r:List Rat) (k j:Nat) (hp:Bs k p) (hr:Bs j r) (hk:k+j+1<2199023255552) (hn:p.length<=1000000) (hm:r.length<p.length):Ev L 191 [.sl q1 (r.map eQ),.sl q2 (p.map eQ)] (.sl false ((BQ (EX p r)).map eQ)):=by
 refine Ev.x N.I6 rfl rfl ?_;(repeat' ((first|(apply AG<;>intro hc<;>try omega)|apply AR|apply AE)<;>conv=>whnf))
 refine EM (enc:=eO) none p.length rfl rfl (by omega) ?_;(conv=>whnf)
 skip
 have jf:=OK p r;refine ES (λ i=>p.length-i) (λ(i:Nat)=>i<=p.length) (λ i=>[(19,.int .i64 i)]) (λ i=>[(16,16,.rw 3 ((EK ((EX p r).take i) p.length).map eO))]) [] [] 0 (by first|exact (by (conv=>whnf);exact ⟨rfl,rfl,rfl⟩)|(rw[List.take_zero,<-I2];exact (by (conv=>whnf);exact ⟨rfl,rfl,rfl⟩))) (by omega) ?_;intro i g1 ih;by_cases hi:i<p.length
 ·obtain ⟨x,hx⟩ : ∃ x,p[i]? = some x:=⟨_,zE hi⟩
  have gi:p[(i:Int).toNat]? = some x:=hx;have hy:=O9 (r:=r) hi;rw[G9 hx]at hy;have jv:((EX p r).take i).length=i:=by rw[List.length_take];omega
  have uk:=IM (l:=(EX p r).take i) (m:=p.length) (by omega);have j7:=I3 (l:=(EX p r).take i) (m:=p.length) (x:=x+r.getD i 0) (by omega);rw[jv,<-RE hy]at j7;by_cases h2:i<r.length
  ·obtain ⟨y,oh⟩ : ∃ y,r[i]? = some y:=⟨_,zE h2⟩
   have Gw:r[(i:Int).toNat]? = some y:=oh;rw[G9 oh]at j7;have hA:=QM N.toa6 (hp.at hx) (hr.at oh) (by omega) (by omega);(repeat' ((first|(apply AG<;>intro hc<;>try omega)|(apply A3;omega)|apply AR|(refine BL (by assumption) ?_ rfl ?_;omega)|apply AE|refine AC (hA) ?_)<;>conv=>whnf))
   refine F3 (enc:=eO) (some (x+y)) rfl (λ e=>by cases e<;>rfl) (by omega) ?_;(conv=>whnf)
   (repeat' ((first|(apply AZ;omega)|fail)<;>conv=>whnf))
   rw[j7];exact B0 [] (ih (i+1) (by omega) (by omega))
  ·rw[E3 (l:=r) (by omega),Rat.add_zero]at j7
   have hT:=T5 N.toa6 (hp.at hx) (by omega);(repeat' ((first|(apply AG<;>intro hc<;>try omega)|(apply A3;omega)|apply AR|(refine BL (by assumption) ?_ rfl ?_;omega)|apply AE|refine AC (hT) ?_)<;>conv=>whnf))
   refine F3 (enc:=eO) (some x) rfl (λ e=>by cases e<;>rfl) (by omega) ?_;(conv=>whnf)
   (repeat' ((first|(apply AZ;omega)|fail)<;>conv=>whnf))
   rw[j7];exact B0 [] (ih (i+1) (by omega) (by omega))
 ·obtain rfl:i=p.length:=by omega
  clear ih;have qi:Bs (k+j+1) (EX p r):=by
   intro z hz;obtain ⟨i,hi⟩:=List.getElem?_of_mem hz;have h1:=(zS hi).1;rw[jf]at h1;rw[O9 h1]at hi;obtain rfl:=Option.some.inj hi;obtain ⟨x,hx⟩ : ∃ x,p[i]? = some x:=⟨_,zE h1⟩;rw[G9 hx];by_cases h2:i<r.length
   ·obtain ⟨y,oh⟩ : ∃ y,r[i]? = some y:=⟨_,zE h2⟩
    rw[G9 oh];exact (hp.at hx).add (hr.at oh)
   ·rw[E3 (l:=r) (by omega),Rat.add_zero]
    exact (hp.at hx).le (by omega)
  rw[zT (Nat.le_of_eq jf),I1 jf,<-jf];generalize EX p r=u at *;(repeat' ((first|(apply AG<;>intro hc<;>try omega)|apply AE)<;>conv=>whnf))
  refine FC 1000 N.F6 rfl rfl ?_;(repeat' (apply AE<;>conv=>whnf))
  refine ED (λ n=>n) (λ(n:Nat)=>n<=u.length/\CB u u.length=CB u n) (λ n=>[(3,.int .i64 n)]) (λ_=>[(16,16,.rw 3 (u.map eQ))]) u.length ⟨Nat.le_refl _,rfl⟩ ?_;intro n ⟨p1,p2⟩ ih;have done : ∀ {n:Nat},CB u u.length=n->BQ u=u.take n:=λ h=>by rw[BQ,h]
  by_cases hz:n=0\/(∃ m x,n=m+1/\u[m]? = some x/\x≠0)
  ·have ay:CB u u.length=n:=by
    rw[p2];rcases hz with rfl|⟨m,x,rfl,h1,h2⟩
    ·rfl
    ·rw[CB,if_neg]
     rw[List.getD_eq_getElem?_getD,h1];exact h2
   have rm:=done ay;have fo:(u.take n).length=n:=by rw[List.length_take];omega
   clear ih ay p2 done;rcases hz with h0|⟨m,x,um,h1,h2⟩
   case' inl=>(repeat' ((first|(apply AG<;>intro hc<;>try omega)|apply AE)<;>conv=>whnf))
   case' inr =>
    have lh:u[((n:Int)-1).toNat]? = some x:=by rw[show ((n:Int)-1).toNat=m by omega];exact h1
    have fu:=HZ N.toa6 (qi.at h1) (by omega);have hs:=ID (x:=x);generalize u9 x.num=s at *;have hS : ∀ v,u[((n:Int)-1).toNat]? = some v->Ev L 97 [.agg (eQ v)] (.int .i64 s):=λ v h=>by
     obtain rfl:=Option.some.inj (lh.symm.trans h);exact fu
    have ju:s≠0:=λ h=>h2 (hs.1 h)
    (repeat' ((first|(apply AG<;>intro hc<;>try omega)|(apply A3;omega)|(apply BX;omega)|(refine P3 ?_ (λ_=>rfl) (λ v hv => ?_);omega)|apply AE|refine AC (hS _ hv) ?_)<;>conv=>whnf))
   all_goals
    refine F8 n (by omega) (by omega) ?_;(conv=>whnf)
    skip
    refine ⟨rfl,_,rfl,?_⟩;(conv=>whnf)
    (refine GL (enc:=eQ) (λ_=>rfl) (by omega) ?_;rw[List.drop_zero,Nat.sub_zero,<-rm];exact AU rfl (by simp only[A6,true_and];exact EY _))
  ·obtain ⟨m,rfl⟩ : ∃ m,n=m+1:=⟨n-1,by omega⟩
   obtain ⟨x,hx⟩ : ∃ x,u[m]? = some x:=⟨_,zE (by omega)⟩;have dz:x=0:=by
    rcases Classical.em (x=0) with h|h
    ·exact h
    ·exact (hz (Or.inr ⟨m,x,rfl,hx,h⟩)).elim
   have gi:u[((m+1:Nat)-1:Int).toNat]? = some x:=by rw[show ((m+1:Nat)-1:Int).toNat=m by omega];exact hx
   have fu:=HZ N.toa6 (qi.at hx) (by omega);have hs:=ID (x:=x);generalize u9 x.num=s at *;have hS : ∀ v,u[((m+1:Nat)-1:Int).toNat]? = some v->Ev L 97 [.agg (eQ v)] (.int .i64 s):=λ v h=>by
    obtain rfl:=Option.some.inj (gi.symm.trans h);exact fu
   have ju:=hs.2 dz;(repeat' ((first|(apply AG<;>intro hc<;>try omega)|(apply A3;omega)|(apply BX;omega)|(refine P3 ?_ (λ_=>rfl) (λ v hv => ?_);omega)|apply AE|refine AC (hS _ hv) ?_)<;>conv=>whnf))
   rw[show ((m+1:Nat):Int)-1=(m:Int) by omega];exact B0 [] (ih m (by omega) ⟨by omega,by rw[p2,CB,if_pos (by rw[List.getD_eq_getElem?_getD,hx];exact dz)]⟩)
theorem jU (N:q8 L) (P Q:List Rat) (k:Nat) (bP:Bs k P) (bQ:Bs k Q) (hk:k<2199023255552) (lP:P.length<=48) (lQ:Q.length<=48):Ev L 379 [.sl false (P.map eQ),.sl false (Q.map eQ)] (.j4 [.agg [.sl false (P.map eQ),.sl false (Q.map eQ)],.int .i64 0]):=by
 have nw:=WY N.tok6 false P k bP hk (by omega);have mq:=WY N.tok6 false Q k bQ hk (by omega);have c1:=HW P P.length;have c2:=HW Q Q.length;generalize CB P P.length=d1 at *;generalize CB Q Q.length=d2 at *;refine Ev.x N.M3 rfl rfl ?_;(repeat' ((first|(apply AG<;>intro hc<;>try omega)|apply AE|refine AC (nw) ?_|refine AC (mq) ?_)<;>conv=>whnf))
 exact AU rfl (by simp only[A6,C6,true_and,and_true];exact ⟨EY _,EY _⟩)
theorem RG {R P:List Rat} (h:BQ R=P):P.length<=R.length:=by
 rw[<-h,NG];exact HW R R.length
theorem Nj (N:q8 L) (B1 A1 B2 A2 P Q:List Rat) (k:Nat) (t1:BQ B1=B1) (t2:BQ A1=A1) (t3:BQ B2=B2) (t4:BQ A2=A2) (l1:B1.length<=12) (l2:A1.length<=12) (l3:B2.length<=12) (l4:A2.length<=12) (b1:Bs k B1) (b2:Bs k A1) (b3:Bs k B2) (b4:Bs k A2) (hk:k<=100000) (h1:A1[0]? = some 1) (h2:A2[0]? = some 1)
  (tP:BQ P=P) (tQ:BQ Q=Q) (hP : ∀ K,EB B1 B2 K=P.getD K 0) (hQ : ∀ K,EB A1 A2 K=Q.getD K 0) :
  Ev L 380 [.agg [.sl false (B1.map eQ),.sl false (A1.map eQ)],.agg [.sl false (B2.map eQ),.sl false (A2.map eQ)]] (.j4 [.agg [.sl false (P.map eQ),.sl false (Q.map eQ)],.int .i64 0]):=by
 have pq:=T4 N.tok6 false false B1 A1 k b1 b2 (by omega) (by omega) (by omega) h1;have Dy:=T4 N.tok6 false false B2 A2 k b3 b4 (by omega) (by omega) (by omega) h2;obtain ⟨R1,m1,n1,s1,ff⟩:=T3 N.toy9 false false B1 B2 k t1 t3 l1 l3 b1 b3 hk;obtain ⟨R2,m2,n2,s2,ja⟩:=T3 N.toy9 false false A1 A2 k t2 t4 l2 l4 b2 b4 hk;have e1:BQ R1=P:=VK tP λ i=>by rw[m1,hP]
 have e2:BQ R2=Q:=VK tQ λ i=>by rw[m2,hQ]
 have u1:=RG e1;have u2:=RG e2;have bP:=s1.trim;have bQ:=s2.trim;rw[e1]at ff bP;rw[e2]at ja bQ;have hL:=jU N P Q (2000000*k+1000) bP bQ (by omega) (by omega) (by omega);clear m1 m2 s1 s2 e1 e2 hP hQ;refine Ev.x N.MZ rfl rfl ?_;(repeat' ((first|apply AE|refine AC (pq) ?_|refine AC (Dy) ?_|refine AC (ff) ?_|refine AC (ja) ?_|refine AC (hL) ?_)<;>conv=>whnf))
 exact AU rfl (by simp only[A6,C6,true_and,and_true];exact ⟨EY _,EY _⟩)
theorem Ps (N:q8 L) (B1 A1 B2 A2 P Q:List Rat) (k:Nat) (t1:BQ B1=B1) (t2:BQ A1=A1) (t3:BQ B2=B2) (t4:BQ A2=A2) (l1:B1.length<=12) (l2:A1.length<=12) (l3:B2.length<=12) (l4:A2.length<=12) (b1:Bs k B1) (b2:Bs k A1) (b3:Bs k B2) (b4:Bs k A2) (hk:k<=100000) (h1:A1[0]? = some 1) (h2:A2[0]? = some 1)
  (tP:BQ P=P) (tQ:BQ Q=Q) (hP : ∀ K,EB B1 A2 K+EB B2 A1 K=P.getD K 0) (hQ : ∀ K,EB A1 A2 K=Q.getD K 0) :
  Ev L 381 [.agg [.sl false (B1.map eQ),.sl false (A1.map eQ)],.agg [.sl false (B2.map eQ),.sl false (A2.map eQ)]] (.j4 [.agg [.sl false (P.map eQ),.sl false (Q.map eQ)],.int .i64 0]):=by
 have pq:=T4 N.tok6 false false B1 A1 k b1 b2 (by omega) (by omega) (by omega) h1;have Dy:=T4 N.tok6 false false B2 A2 k b3 b4 (by omega) (by omega) (by omega) h2;obtain ⟨R1,m1,n1,s1,ff⟩:=T3 N.toy9 false false B1 A2 k t1 t4 l1 l4 b1 b4 hk;obtain ⟨R3,m3,n3,s3,mr⟩:=T3 N.toy9 false false B2 A1 k t3 t2 l3 l2 b3 b2 hk;obtain ⟨R2,m2,n2,s2,ja⟩:=T3 N.toy9 false false A1 A2 k t2 t4 l2 l4 b2 b4 hk;have e2:BQ R2=Q:=VK tQ λ i=>by rw[m2,hQ]
 have u2:=RG e2;have bQ:=s2.trim;rw[e2]at ja bQ;have g1 : ∀ K,(BQ R1).getD K 0+(BQ R3).getD K 0=P.getD K 0:=λ K=>by rw[NF,NF,m1,m3,hP]
 have v1:=s1.trim;have v3:=s3.trim;have w1:=RG (R:=R1) rfl;have w3:=RG (R:=R3) rfl;generalize BQ R1=X at *;generalize BQ R3=Y at *;have hA:Ev L 191 [.sl false (X.map eQ),.sl false (Y.map eQ)] (.sl false (P.map eQ))/\P.length<=24/\Bs (4000000*k+2001) P:=by
  have bb : ∀ {X Y:List Rat},Bs (2000000*k+1000) X->Bs (2000000*k+1000) Y->Bs (4000000*k+2001) (EX X Y):=λ hX hY z hz=>by
   obtain ⟨i,hi⟩:=List.getElem?_of_mem hz;have h1:=(zS hi).1;rw[OK]at h1;rw[O9 h1]at hi;obtain rfl:=Option.some.inj hi;exact ((HL hX i).add (HL hY i)).le (by omega)
  by_cases hl:Y.length<=X.length
  ·have e1:BQ (EX X Y)=P:=VK tP λ i=>by rw[V5 _ _ hl,g1]
   have:=jZ N.toy5 false false X Y _ _ v1 v3 (by omega) (by omega) hl
   rw[e1]at this;have u:=RG e1;rw[OK]at u;have hb:=(bb v1 v3).trim;rw[e1]at hb;exact ⟨this,by omega,hb⟩
  ·have e1:BQ (EX Y X)=P:=VK tP λ i=>by rw[V5 _ _ (by omega),Rat.add_comm,g1]
   have:=Ov N.toy5 false false Y X _ _ v3 v1 (by omega) (by omega) (by omega)
   rw[e1]at this;have u:=RG e1;rw[OK]at u;have hb:=(bb v3 v1).trim;rw[e1]at hb;exact ⟨this,by omega,hb⟩
 obtain ⟨hA,u1,bP⟩:=hA;have hL:=jU N P Q (4000000*k+2001) bP (bQ.le (by omega)) (by omega) (by omega) (by omega);clear m1 m2 m3 s1 s2 s3 e2 hP hQ g1 v1 v3;refine Ev.x N.MY rfl rfl ?_;(repeat' ((first|apply AE|refine AC (pq) ?_|refine AC (Dy) ?_|refine AC (ff) ?_|refine AC (mr) ?_|refine AC (ja) ?_|refine AC (hA) ?_|refine AC (hL) ?_)<;>conv=>whnf))
 exact AU rfl (by simp only[A6,C6,true_and,and_true];exact ⟨EY _,EY _⟩)
end Go.e9

namespace Go.e9
theorem GT {es:List (List AV)} {i j n:Nat} {K:List AV->Prop} {cs ds:List AV} (h:es[i]? = some cs) (hp:part cs j n=some ds) (hk:K ds):A9 es i j n K:=by
 unfold A9;exact ⟨cs,ds,h,hp,hk⟩
theorem GV {es:List (List AV)} {off len:Nat} {K:List (List AV)->Prop} (h:Nat.ble (off+len) es.length=true) (hz:es.all E5=true) (hk:K ((es.drop off).take len)):A4 es off len K :=
 RS (Nat.le_of_ble_eq_true h) (λ e he=>List.all_eq_true.1 hz e he) hk
theorem CM {es:List (List AV)} {K:Nat->Prop} (n:Nat) (hn:es.length=n) (h:K n):AM es K:=⟨hn ▸ h⟩
theorem CJ {rows:List (Option (Nat × List (List AV)))} {len bytes:Nat} {r:Option (Nat × List (List AV))} {K:List (Option (Nat × List (List AV)))->Nat->Prop} (n:Nat) (hn:n=len+1) (hl:len=rows.length) (hr:Nat.ble (n*bytes) 140737488355328=true) (aq:Nat.ble n 9223372036854775807=true) (h:K (rows++[r]) n):BP rows len r bytes K:=by
 subst hn;exact ⟨hl,by simpa [EQ] using Nat.le_of_ble_eq_true hr,Nat.le_of_ble_eq_true aq,h⟩
theorem BK {es ys:List (List AV)} {len z bytes:Nat} {K:List (List AV)->Nat->Prop} (n:Nat) (hn:n=len+ys.length) (hl:Nat.ble len es.length=true) (hz:ys.all (λ e=>Nat.beq e.length z)=true) (hr:Nat.ble (n*bytes) 140737488355328=true) (aq:Nat.ble n 9223372036854775807=true) (h:K (es.take len++ys) n):AX es len ys z bytes K:=by
 subst hn;exact ⟨Nat.le_of_ble_eq_true hl,λ e he=>Nat.eq_of_beq_eq_true (List.all_eq_true.1 hz e he),by simpa [EQ] using Nat.le_of_ble_eq_true hr,Nat.le_of_ble_eq_true aq,h⟩
theorem HI {β:Type} {rows:List (Option (Nat × List (List AV)))} {z:Nat} {en:β->List AV} {q:Bool} {off len:Nat} {K:List (List AV)->Prop} (ll:List (List β)) (hr:rows=DH z en ll) (hz : ∀ x,E5 (en x)=true) (ho:off=0) (hl:len=ll.length) (h:K (ll.map λ r=>[AV.sl q (r.map en)])):C4 q rows off len K:=by
 subst hr;exact V1 hz ho hl h
theorem DQ {es:List (List AV)} {a:Int} {z:Nat} {K:List AV->Prop} {cs:List AV} (i:Nat) (ha:a=i) (h:es[i]? = some cs) (hz:cs.length=z) (hk:K cs):AW es a z K:=by
 subst ha;unfold AW;exact ⟨by omega,cs,h,hz,hk⟩
end Go.e9

namespace Go.e9
open F
attribute [local irreducible] AA AF AQ AD DW AW A9 BD CO AX BI FZ CE A4 CD C7 AB BA AJ pw D6 C3 E7 EH FE BP C4 B9 CF
variable {L:Lib}
set_option maxHeartbeats 16000000
set_option maxRecDepth 8000
theorem CK {ys:List (List AV)} {z bytes:Nat} {K:List (List AV)->Nat->Prop} (n:Nat) (hn:n=ys.length) (hz:ys.all (λ e=>Nat.beq e.length z)=true) (hr:Nat.ble (n*bytes) 140737488355328=true) (aq:Nat.ble n 9223372036854775807=true) (h:K ys n):BI ys z bytes K:=by
 subst hn;unfold BI;exact ⟨λ e he=>Nat.eq_of_beq_eq_true (List.all_eq_true.1 hz e he),by simpa [EQ] using Nat.le_of_ble_eq_true hr,Nat.le_of_ble_eq_true aq,h⟩
theorem Lq (N:q8 L) (S T:B3) (n m k:Nat) (hS:S.Ok n k) (hT:T.Ok m k) (hn:n<=2) (hm:m<=2) (hk:k<=1000000) :
  Ev L 377 [.agg (eS S),.agg (eS T)] (.j4 [.agg (eS (CZ S T)),.int .i64 0]):=by
 have z7:=WU N.too6 S n k hS (by omega);have z8:=WU N.too6 T m k hT (by omega);have hZ:=λ m:Nat=>λ hm=>(W2 N.tok6 m hm).2
 have jb:=λ m:Nat=>λ hm=>(W2 N.tok6 m hm).1
 have Bx : ∀ b∈T.b,∀ c∈S.c,Ev L 128 [.agg (eQ b),.agg (eQ c)] (.agg (eQ (b*c))):=λ b hb c hc=>WX N.tob8 (hT.bb b hb) (hS.bc c hc) (by omega) (by omega)
 have yb : ∀ b∈T.b,Ev L 128 [.agg (eQ b),.agg (eQ S.d)] (.agg (eQ (b*S.d))):=λ b hb=>WX N.tob8 (hT.bb b hb) hS.bd (by omega) (by omega)
 have yc : ∀ c∈S.c,Ev L 128 [.agg (eQ T.d),.agg (eQ c)] (.agg (eQ (c*T.d))):=λ c hc=>by
  rw[Rat.mul_comm c];exact WX N.tob8 hT.bd (hS.bc c hc) (by omega) (by omega)
 have iz:=WX N.tob8 hS.bd hT.bd (by omega) (by omega);have j6:=TP (CZ S T) 0;obtain ⟨sl,sr,sb,sc,_,_,_,_⟩:=hS;obtain ⟨tl,tr,tb,tc,_,_,_,_⟩:=hT;obtain ⟨sA,sB,sC,sD⟩:=S;obtain ⟨tA,tB,tC,tD⟩:=T;simp only at *;obtain rfl|rfl|rfl:n=0\/n=1\/n=2:=by omega
 all_goals obtain rfl|rfl|rfl:m=0\/m=1\/m=2:=by omega
 ·obtain rfl:=List.length_eq_zero_iff.1 sl
  obtain rfl:=List.length_eq_zero_iff.1 sb;obtain rfl:=List.length_eq_zero_iff.1 sc;obtain rfl:=List.length_eq_zero_iff.1 tl;obtain rfl:=List.length_eq_zero_iff.1 tb;obtain rfl:=List.length_eq_zero_iff.1 tc;have bn:eS ⟨[],[],[],sD⟩=[.sl false [],.sl false [],.sl false []]++eQ sD:=rfl;have bq:eS ⟨[],[],[],tD⟩=[.sl false [],.sl false [],.sl false []]++eQ tD:=rfl;generalize hR:AV.j4 [.agg (eS (CZ _ _)),.int .i64 0]=R at j6 ⊢;rw[bn]at z7 ⊢;rw[bq]at z8 ⊢;refine Ev.x N.E1 rfl rfl ?_;repeat (
   (repeat' ((first|(apply AG<;>intro hc<;>try omega)|(apply AZ;omega)|apply AE|refine AC (z7) ?_|refine AC (z8) ?_|refine AC (iz) ?_)<;>conv=>whnf))
   (first|refine CM 0 rfl ?_|refine CM 1 rfl ?_|refine CM 2 rfl ?_|refine GT rfl rfl ?_|refine DQ 0 (by omega) rfl rfl ?_|refine DQ 1 (by omega) rfl rfl ?_|refine CJ 2 rfl rfl rfl rfl ?_|refine CJ 3 rfl rfl rfl rfl ?_|refine CJ 4 rfl rfl rfl rfl ?_|refine CK 0 rfl rfl rfl rfl ?_|refine CK 1 rfl rfl rfl rfl ?_|refine CK 2 rfl rfl rfl rfl ?_|refine BK 0 rfl rfl rfl rfl rfl ?_|refine BK 1 rfl rfl rfl rfl rfl ?_|refine BK 2 rfl rfl rfl rfl rfl ?_|refine BK 3 rfl rfl rfl rfl rfl ?_|refine BK 4 rfl rfl rfl rfl rfl ?_|refine D5 (enc:=eQ) _ (jb _ (by omega)) (List.length_replicate ..).symm ?_|refine A3 rfl ?_|refine A3 ⟨rfl,by decide⟩ ?_|refine FK ?_)
   (conv=>whnf))
  (repeat' ((first|(apply AG<;>intro hc<;>try omega)|apply AE)<;>conv=>whnf))
  repeat (refine GV rfl rfl ?_;(conv=>whnf))
  rw[<-hR]at j6 ⊢;exact AU rfl j6
 ·obtain rfl:=List.length_eq_zero_iff.1 sl
  obtain rfl:=List.length_eq_zero_iff.1 sb;obtain rfl:=List.length_eq_zero_iff.1 sc;obtain ⟨t0,rfl⟩:=BW tl;obtain ⟨e,rfl⟩:=BW (tr t0 (by simp));obtain ⟨r,rfl⟩:=BW tb;obtain ⟨w,rfl⟩:=BW tc;have bn:eS ⟨[],[],[],sD⟩=[.sl false [],.sl false [],.sl false []]++eQ sD:=rfl;have bq:eS ⟨[[e]],[r],[w],tD⟩=[.sl false [[.sl false [eQ e]]],.sl false [eQ r],.sl false [eQ w]]++eQ tD:=rfl;generalize hR:AV.j4 [.agg (eS (CZ _ _)),.int .i64 0]=R at j6 ⊢;rw[bn]at z7 ⊢;rw[bq]at z8 ⊢;refine Ev.x N.E1 rfl rfl ?_;repeat (
   (repeat' ((first|(apply AG<;>intro hc<;>try omega)|(apply AZ;omega)|apply EN|apply AE|refine AC (z7) ?_|refine AC (z8) ?_|refine AC (iz) ?_|refine AC (yb _ (by simp)) ?_)<;>conv=>whnf))
   (first|refine CM 0 rfl ?_|refine CM 1 rfl ?_|refine CM 2 rfl ?_|refine GT rfl rfl ?_|refine DQ 0 (by omega) rfl rfl ?_|refine DQ 1 (by omega) rfl rfl ?_|refine CJ 2 rfl rfl rfl rfl ?_|refine CJ 3 rfl rfl rfl rfl ?_|refine CJ 4 rfl rfl rfl rfl ?_|refine CK 0 rfl rfl rfl rfl ?_|refine CK 1 rfl rfl rfl rfl ?_|refine CK 2 rfl rfl rfl rfl ?_|refine BK 0 rfl rfl rfl rfl rfl ?_|refine BK 1 rfl rfl rfl rfl rfl ?_|refine BK 2 rfl rfl rfl rfl rfl ?_|refine BK 3 rfl rfl rfl rfl rfl ?_|refine BK 4 rfl rfl rfl rfl rfl ?_|refine D5 (enc:=eQ) _ (jb _ (by omega)) (List.length_replicate ..).symm ?_|refine A3 rfl ?_|refine A3 ⟨rfl,by decide⟩ ?_|refine FK ?_)
   (conv=>whnf))
  (repeat' ((first|(apply AG<;>intro hc<;>try omega)|apply AE)<;>conv=>whnf))
  refine HI (z:=3) (en:=eQ) (CZ ⟨[],[],[],sD⟩ ⟨[[e]],[r],[w],tD⟩).a rfl (λ_=>rfl) rfl rfl ?_;(conv=>whnf)
  repeat (refine GV rfl rfl ?_;(conv=>whnf))
  rw[<-hR]at j6 ⊢;exact AU rfl j6
 ·obtain rfl:=List.length_eq_zero_iff.1 sl
  obtain rfl:=List.length_eq_zero_iff.1 sb;obtain rfl:=List.length_eq_zero_iff.1 sc;obtain ⟨t0,t1,rfl⟩:=BO tl;obtain ⟨e,f,rfl⟩:=BO (tr t0 (by simp));obtain ⟨g,h,rfl⟩:=BO (tr t1 (by simp));obtain ⟨r,s,rfl⟩:=BO tb;obtain ⟨w,x,rfl⟩:=BO tc;have bn:eS ⟨[],[],[],sD⟩=[.sl false [],.sl false [],.sl false []]++eQ sD:=rfl;have bq:eS ⟨[[e,f],[g,h]],[r,s],[w,x],tD⟩=[.sl false [[.sl false [eQ e,eQ f]],[.sl false [eQ g,eQ h]]],.sl false [eQ r,eQ s],.sl false [eQ w,eQ x]]++eQ tD:=rfl;generalize hR:AV.j4 [.agg (eS (CZ _ _)),.int .i64 0]=R at j6 ⊢;rw[bn]at z7 ⊢;rw[bq]at z8 ⊢;refine Ev.x N.E1 rfl rfl ?_;repeat (
   (repeat' ((first|(apply AG<;>intro hc<;>try omega)|(apply AZ;omega)|apply EN|apply AE|refine AC (z7) ?_|refine AC (z8) ?_|refine AC (iz) ?_|refine AC (yb _ (by simp)) ?_)<;>conv=>whnf))
   (first|refine CM 0 rfl ?_|refine CM 1 rfl ?_|refine CM 2 rfl ?_|refine GT rfl rfl ?_|refine DQ 0 (by omega) rfl rfl ?_|refine DQ 1 (by omega) rfl rfl ?_|refine CJ 2 rfl rfl rfl rfl ?_|refine CJ 3 rfl rfl rfl rfl ?_|refine CJ 4 rfl rfl rfl rfl ?_|refine CK 0 rfl rfl rfl rfl ?_|refine CK 1 rfl rfl rfl rfl ?_|refine CK 2 rfl rfl rfl rfl ?_|refine BK 0 rfl rfl rfl rfl rfl ?_|refine BK 1 rfl rfl rfl rfl rfl ?_|refine BK 2 rfl rfl rfl rfl rfl ?_|refine BK 3 rfl rfl rfl rfl rfl ?_|refine BK 4 rfl rfl rfl rfl rfl ?_|refine D5 (enc:=eQ) _ (jb _ (by omega)) (List.length_replicate ..).symm ?_|refine A3 rfl ?_|refine A3 ⟨rfl,by decide⟩ ?_|refine FK ?_)
   (conv=>whnf))
  (repeat' ((first|(apply AG<;>intro hc<;>try omega)|apply AE)<;>conv=>whnf))
  refine HI (z:=3) (en:=eQ) (CZ ⟨[],[],[],sD⟩ ⟨[[e,f],[g,h]],[r,s],[w,x],tD⟩).a rfl (λ_=>rfl) rfl rfl ?_;(conv=>whnf)
  repeat (refine GV rfl rfl ?_;(conv=>whnf))
  rw[<-hR]at j6 ⊢;exact AU rfl j6
 ·obtain ⟨s0,rfl⟩:=BW sl
  obtain ⟨a,rfl⟩:=BW (sr s0 (by simp));obtain ⟨p,rfl⟩:=BW sb;obtain ⟨u,rfl⟩:=BW sc;obtain rfl:=List.length_eq_zero_iff.1 tl;obtain rfl:=List.length_eq_zero_iff.1 tb;obtain rfl:=List.length_eq_zero_iff.1 tc;have bn:eS ⟨[[a]],[p],[u],sD⟩=[.sl false [[.sl false [eQ a]]],.sl false [eQ p],.sl false [eQ u]]++eQ sD:=rfl;have bq:eS ⟨[],[],[],tD⟩=[.sl false [],.sl false [],.sl false []]++eQ tD:=rfl;generalize hR:AV.j4 [.agg (eS (CZ _ _)),.int .i64 0]=R at j6 ⊢;rw[bn]at z7 ⊢;rw[bq]at z8 ⊢;refine Ev.x N.E1 rfl rfl ?_;repeat (
   (repeat' ((first|(apply AG<;>intro hc<;>try omega)|(apply AZ;omega)|apply EN|apply AE|refine AC (z7) ?_|refine AC (z8) ?_|refine AC (hZ _ (by omega)) ?_|refine AC (iz) ?_|refine AC (yc _ (by simp)) ?_)<;>conv=>whnf))
   (first|refine CM 0 rfl ?_|refine CM 1 rfl ?_|refine CM 2 rfl ?_|refine GT rfl rfl ?_|refine DQ 0 (by omega) rfl rfl ?_|refine DQ 1 (by omega) rfl rfl ?_|refine CJ 2 rfl rfl rfl rfl ?_|refine CJ 3 rfl rfl rfl rfl ?_|refine CJ 4 rfl rfl rfl rfl ?_|refine CK 0 rfl rfl rfl rfl ?_|refine CK 1 rfl rfl rfl rfl ?_|refine CK 2 rfl rfl rfl rfl ?_|refine BK 0 rfl rfl rfl rfl rfl ?_|refine BK 1 rfl rfl rfl rfl rfl ?_|refine BK 2 rfl rfl rfl rfl rfl ?_|refine BK 3 rfl rfl rfl rfl rfl ?_|refine BK 4 rfl rfl rfl rfl rfl ?_|refine D5 (enc:=eQ) _ (jb _ (by omega)) (List.length_replicate ..).symm ?_|refine A3 rfl ?_|refine A3 ⟨rfl,by decide⟩ ?_|refine FK ?_)
   (conv=>whnf))
  (repeat' ((first|(apply AG<;>intro hc<;>try omega)|apply AE)<;>conv=>whnf))
  refine HI (z:=3) (en:=eQ) (CZ ⟨[[a]],[p],[u],sD⟩ ⟨[],[],[],tD⟩).a rfl (λ_=>rfl) rfl rfl ?_;(conv=>whnf)
  repeat (refine GV rfl rfl ?_;(conv=>whnf))
  rw[<-hR]at j6 ⊢;exact AU rfl j6
 ·obtain ⟨s0,rfl⟩:=BW sl
  obtain ⟨a,rfl⟩:=BW (sr s0 (by simp));obtain ⟨p,rfl⟩:=BW sb;obtain ⟨u,rfl⟩:=BW sc;obtain ⟨t0,rfl⟩:=BW tl;obtain ⟨e,rfl⟩:=BW (tr t0 (by simp));obtain ⟨r,rfl⟩:=BW tb;obtain ⟨w,rfl⟩:=BW tc;have bn:eS ⟨[[a]],[p],[u],sD⟩=[.sl false [[.sl false [eQ a]]],.sl false [eQ p],.sl false [eQ u]]++eQ sD:=rfl;have bq:eS ⟨[[e]],[r],[w],tD⟩=[.sl false [[.sl false [eQ e]]],.sl false [eQ r],.sl false [eQ w]]++eQ tD:=rfl;generalize hR:AV.j4 [.agg (eS (CZ _ _)),.int .i64 0]=R at j6 ⊢;rw[bn]at z7 ⊢;rw[bq]at z8 ⊢;refine Ev.x N.E1 rfl rfl ?_;repeat (
   (repeat' ((first|(apply AG<;>intro hc<;>try omega)|(apply AZ;omega)|apply EN|apply AE|refine AC (z7) ?_|refine AC (z8) ?_|refine AC (hZ _ (by omega)) ?_|refine AC (iz) ?_|refine AC (yc _ (by simp)) ?_|refine AC (yb _ (by simp)) ?_|refine AC (Bx _ (by simp) _ (by simp)) ?_)<;>conv=>whnf))
   (first|refine CM 0 rfl ?_|refine CM 1 rfl ?_|refine CM 2 rfl ?_|refine GT rfl rfl ?_|refine DQ 0 (by omega) rfl rfl ?_|refine DQ 1 (by omega) rfl rfl ?_|refine CJ 2 rfl rfl rfl rfl ?_|refine CJ 3 rfl rfl rfl rfl ?_|refine CJ 4 rfl rfl rfl rfl ?_|refine CK 0 rfl rfl rfl rfl ?_|refine CK 1 rfl rfl rfl rfl ?_|refine CK 2 rfl rfl rfl rfl ?_|refine BK 0 rfl rfl rfl rfl rfl ?_|refine BK 1 rfl rfl rfl rfl rfl ?_|refine BK 2 rfl rfl rfl rfl rfl ?_|refine BK 3 rfl rfl rfl rfl rfl ?_|refine BK 4 rfl rfl rfl rfl rfl ?_|refine D5 (enc:=eQ) _ (jb _ (by omega)) (List.length_replicate ..).symm ?_|refine A3 rfl ?_|refine A3 ⟨rfl,by decide⟩ ?_|refine FK ?_)
   (conv=>whnf))
  (repeat' ((first|(apply AG<;>intro hc<;>try omega)|apply AE)<;>conv=>whnf))
  refine HI (z:=3) (en:=eQ) (CZ ⟨[[a]],[p],[u],sD⟩ ⟨[[e]],[r],[w],tD⟩).a rfl (λ_=>rfl) rfl rfl ?_;(conv=>whnf)
  repeat (refine GV rfl rfl ?_;(conv=>whnf))
  rw[<-hR]at j6 ⊢;exact AU rfl j6
 ·obtain ⟨s0,rfl⟩:=BW sl
  obtain ⟨a,rfl⟩:=BW (sr s0 (by simp));obtain ⟨p,rfl⟩:=BW sb;obtain ⟨u,rfl⟩:=BW sc;obtain ⟨t0,t1,rfl⟩:=BO tl;obtain ⟨e,f,rfl⟩:=BO (tr t0 (by simp));obtain ⟨g,h,rfl⟩:=BO (tr t1 (by simp));obtain ⟨r,s,rfl⟩:=BO tb;obtain ⟨w,x,rfl⟩:=BO tc;have bn:eS ⟨[[a]],[p],[u],sD⟩=[.sl false [[.sl false [eQ a]]],.sl false [eQ p],.sl false [eQ u]]++eQ sD:=rfl;have bq:eS ⟨[[e,f],[g,h]],[r,s],[w,x],tD⟩=[.sl false [[.sl false [eQ e,eQ f]],[.sl false [eQ g,eQ h]]],.sl false [eQ r,eQ s],.sl false [eQ w,eQ x]]++eQ tD:=rfl;generalize hR:AV.j4 [.agg (eS (CZ _ _)),.int .i64 0]=R at j6 ⊢;rw[bn]at z7 ⊢;rw[bq]at z8 ⊢;refine Ev.x N.E1 rfl rfl ?_;repeat (
   (repeat' ((first|(apply AG<;>intro hc<;>try omega)|(apply AZ;omega)|apply EN|apply AE|refine AC (z7) ?_|refine AC (z8) ?_|refine AC (hZ _ (by omega)) ?_|refine AC (iz) ?_|refine AC (yc _ (by simp)) ?_|refine AC (yb _ (by simp)) ?_|refine AC (Bx _ (by simp) _ (by simp)) ?_)<;>conv=>whnf))
   (first|refine CM 0 rfl ?_|refine CM 1 rfl ?_|refine CM 2 rfl ?_|refine GT rfl rfl ?_|refine DQ 0 (by omega) rfl rfl ?_|refine DQ 1 (by omega) rfl rfl ?_|refine CJ 2 rfl rfl rfl rfl ?_|refine CJ 3 rfl rfl rfl rfl ?_|refine CJ 4 rfl rfl rfl rfl ?_|refine CK 0 rfl rfl rfl rfl ?_|refine CK 1 rfl rfl rfl rfl ?_|refine CK 2 rfl rfl rfl rfl ?_|refine BK 0 rfl rfl rfl rfl rfl ?_|refine BK 1 rfl rfl rfl rfl rfl ?_|refine BK 2 rfl rfl rfl rfl rfl ?_|refine BK 3 rfl rfl rfl rfl rfl ?_|refine BK 4 rfl rfl rfl rfl rfl ?_|refine D5 (enc:=eQ) _ (jb _ (by omega)) (List.length_replicate ..).symm ?_|refine A3 rfl ?_|refine A3 ⟨rfl,by decide⟩ ?_|refine FK ?_)
   (conv=>whnf))
  (repeat' ((first|(apply AG<;>intro hc<;>try omega)|apply AE)<;>conv=>whnf))
  refine HI (z:=3) (en:=eQ) (CZ ⟨[[a]],[p],[u],sD⟩ ⟨[[e,f],[g,h]],[r,s],[w,x],tD⟩).a rfl (λ_=>rfl) rfl rfl ?_;(conv=>whnf)
  repeat (refine GV rfl rfl ?_;(conv=>whnf))
  rw[<-hR]at j6 ⊢;exact AU rfl j6
 ·obtain ⟨s0,s1,rfl⟩:=BO sl
  obtain ⟨a,b,rfl⟩:=BO (sr s0 (by simp));obtain ⟨c,d,rfl⟩:=BO (sr s1 (by simp));obtain ⟨p,q,rfl⟩:=BO sb;obtain ⟨u,v,rfl⟩:=BO sc;obtain rfl:=List.length_eq_zero_iff.1 tl;obtain rfl:=List.length_eq_zero_iff.1 tb;obtain rfl:=List.length_eq_zero_iff.1 tc;have bn:eS ⟨[[a,b],[c,d]],[p,q],[u,v],sD⟩=[.sl false [[.sl false [eQ a,eQ b]],[.sl false [eQ c,eQ d]]],.sl false [eQ p,eQ q],.sl false [eQ u,eQ v]]++eQ sD:=rfl;have bq:eS ⟨[],[],[],tD⟩=[.sl false [],.sl false [],.sl false []]++eQ tD:=rfl;generalize hR:AV.j4 [.agg (eS (CZ _ _)),.int .i64 0]=R at j6 ⊢;rw[bn]at z7 ⊢;rw[bq]at z8 ⊢;refine Ev.x N.E1 rfl rfl ?_;repeat (
   (repeat' ((first|(apply AG<;>intro hc<;>try omega)|(apply AZ;omega)|apply EN|apply AE|refine AC (z7) ?_|refine AC (z8) ?_|refine AC (hZ _ (by omega)) ?_|refine AC (iz) ?_|refine AC (yc _ (by simp)) ?_)<;>conv=>whnf))
   (first|refine CM 0 rfl ?_|refine CM 1 rfl ?_|refine CM 2 rfl ?_|refine GT rfl rfl ?_|refine DQ 0 (by omega) rfl rfl ?_|refine DQ 1 (by omega) rfl rfl ?_|refine CJ 2 rfl rfl rfl rfl ?_|refine CJ 3 rfl rfl rfl rfl ?_|refine CJ 4 rfl rfl rfl rfl ?_|refine CK 0 rfl rfl rfl rfl ?_|refine CK 1 rfl rfl rfl rfl ?_|refine CK 2 rfl rfl rfl rfl ?_|refine BK 0 rfl rfl rfl rfl rfl ?_|refine BK 1 rfl rfl rfl rfl rfl ?_|refine BK 2 rfl rfl rfl rfl rfl ?_|refine BK 3 rfl rfl rfl rfl rfl ?_|refine BK 4 rfl rfl rfl rfl rfl ?_|refine D5 (enc:=eQ) _ (jb _ (by omega)) (List.length_replicate ..).symm ?_|refine A3 rfl ?_|refine A3 ⟨rfl,by decide⟩ ?_|refine FK ?_)
   (conv=>whnf))
  (repeat' ((first|(apply AG<;>intro hc<;>try omega)|apply AE)<;>conv=>whnf))
  refine HI (z:=3) (en:=eQ) (CZ ⟨[[a,b],[c,d]],[p,q],[u,v],sD⟩ ⟨[],[],[],tD⟩).a rfl (λ_=>rfl) rfl rfl ?_;(conv=>whnf)
  repeat (refine GV rfl rfl ?_;(conv=>whnf))
  rw[<-hR]at j6 ⊢;exact AU rfl j6
 ·obtain ⟨s0,s1,rfl⟩:=BO sl
  obtain ⟨a,b,rfl⟩:=BO (sr s0 (by simp));obtain ⟨c,d,rfl⟩:=BO (sr s1 (by simp));obtain ⟨p,q,rfl⟩:=BO sb;obtain ⟨u,v,rfl⟩:=BO sc;obtain ⟨t0,rfl⟩:=BW tl;obtain ⟨e,rfl⟩:=BW (tr t0 (by simp));obtain ⟨r,rfl⟩:=BW tb;obtain ⟨w,rfl⟩:=BW tc;have bn:eS ⟨[[a,b],[c,d]],[p,q],[u,v],sD⟩=[.sl false [[.sl false [eQ a,eQ b]],[.sl false [eQ c,eQ d]]],.sl false [eQ p,eQ q],.sl false [eQ u,eQ v]]++eQ sD:=rfl;have bq:eS ⟨[[e]],[r],[w],tD⟩=[.sl false [[.sl false [eQ e]]],.sl false [eQ r],.sl false [eQ w]]++eQ tD:=rfl;generalize hR:AV.j4 [.agg (eS (CZ _ _)),.int .i64 0]=R at j6 ⊢;rw[bn]at z7 ⊢;rw[bq]at z8 ⊢;refine Ev.x N.E1 rfl rfl ?_;repeat (
   (repeat' ((first|(apply AG<;>intro hc<;>try omega)|(apply AZ;omega)|apply EN|apply AE|refine AC (z7) ?_|refine AC (z8) ?_|refine AC (hZ _ (by omega)) ?_|refine AC (iz) ?_|refine AC (yc _ (by simp)) ?_|refine AC (yb _ (by simp)) ?_|refine AC (Bx _ (by simp) _ (by simp)) ?_)<;>conv=>whnf))
   (first|refine CM 0 rfl ?_|refine CM 1 rfl ?_|refine CM 2 rfl ?_|refine GT rfl rfl ?_|refine DQ 0 (by omega) rfl rfl ?_|refine DQ 1 (by omega) rfl rfl ?_|refine CJ 2 rfl rfl rfl rfl ?_|refine CJ 3 rfl rfl rfl rfl ?_|refine CJ 4 rfl rfl rfl rfl ?_|refine CK 0 rfl rfl rfl rfl ?_|refine CK 1 rfl rfl rfl rfl ?_|refine CK 2 rfl rfl rfl rfl ?_|refine BK 0 rfl rfl rfl rfl rfl ?_|refine BK 1 rfl rfl rfl rfl rfl ?_|refine BK 2 rfl rfl rfl rfl rfl ?_|refine BK 3 rfl rfl rfl rfl rfl ?_|refine BK 4 rfl rfl rfl rfl rfl ?_|refine D5 (enc:=eQ) _ (jb _ (by omega)) (List.length_replicate ..).symm ?_|refine A3 rfl ?_|refine A3 ⟨rfl,by decide⟩ ?_|refine FK ?_)
   (conv=>whnf))
  (repeat' ((first|(apply AG<;>intro hc<;>try omega)|apply AE)<;>conv=>whnf))
  refine HI (z:=3) (en:=eQ) (CZ ⟨[[a,b],[c,d]],[p,q],[u,v],sD⟩ ⟨[[e]],[r],[w],tD⟩).a rfl (λ_=>rfl) rfl rfl ?_;(conv=>whnf)
  repeat (refine GV rfl rfl ?_;(conv=>whnf))
  rw[<-hR]at j6 ⊢;exact AU rfl j6
 ·obtain ⟨s0,s1,rfl⟩:=BO sl
  obtain ⟨a,b,rfl⟩:=BO (sr s0 (by simp));obtain ⟨c,d,rfl⟩:=BO (sr s1 (by simp));obtain ⟨p,q,rfl⟩:=BO sb;obtain ⟨u,v,rfl⟩:=BO sc;obtain ⟨t0,t1,rfl⟩:=BO tl;obtain ⟨e,f,rfl⟩:=BO (tr t0 (by simp));obtain ⟨g,h,rfl⟩:=BO (tr t1 (by simp));obtain ⟨r,s,rfl⟩:=BO tb;obtain ⟨w,x,rfl⟩:=BO tc;have bn:eS ⟨[[a,b],[c,d]],[p,q],[u,v],sD⟩=[.sl false [[.sl false [eQ a,eQ b]],[.sl false [eQ c,eQ d]]],.sl false [eQ p,eQ q],.sl false [eQ u,eQ v]]++eQ sD:=rfl;have bq:eS ⟨[[e,f],[g,h]],[r,s],[w,x],tD⟩=[.sl false [[.sl false [eQ e,eQ f]],[.sl false [eQ g,eQ h]]],.sl false [eQ r,eQ s],.sl false [eQ w,eQ x]]++eQ tD:=rfl;generalize hR:AV.j4 [.agg (eS (CZ _ _)),.int .i64 0]=R at j6 ⊢;rw[bn]at z7 ⊢;rw[bq]at z8 ⊢;refine Ev.x N.E1 rfl rfl ?_;repeat (
   (repeat' ((first|(apply AG<;>intro hc<;>try omega)|(apply AZ;omega)|apply EN|apply AE|refine AC (z7) ?_|refine AC (z8) ?_|refine AC (hZ _ (by omega)) ?_|refine AC (iz) ?_|refine AC (yc _ (by simp)) ?_|refine AC (yb _ (by simp)) ?_|refine AC (Bx _ (by simp) _ (by simp)) ?_)<;>conv=>whnf))
   (first|refine CM 0 rfl ?_|refine CM 1 rfl ?_|refine CM 2 rfl ?_|refine GT rfl rfl ?_|refine DQ 0 (by omega) rfl rfl ?_|refine DQ 1 (by omega) rfl rfl ?_|refine CJ 2 rfl rfl rfl rfl ?_|refine CJ 3 rfl rfl rfl rfl ?_|refine CJ 4 rfl rfl rfl rfl ?_|refine CK 0 rfl rfl rfl rfl ?_|refine CK 1 rfl rfl rfl rfl ?_|refine CK 2 rfl rfl rfl rfl ?_|refine BK 0 rfl rfl rfl rfl rfl ?_|refine BK 1 rfl rfl rfl rfl rfl ?_|refine BK 2 rfl rfl rfl rfl rfl ?_|refine BK 3 rfl rfl rfl rfl rfl ?_|refine BK 4 rfl rfl rfl rfl rfl ?_|refine D5 (enc:=eQ) _ (jb _ (by omega)) (List.length_replicate ..).symm ?_|refine A3 rfl ?_|refine A3 ⟨rfl,by decide⟩ ?_|refine FK ?_)
   (conv=>whnf))
  (repeat' ((first|(apply AG<;>intro hc<;>try omega)|apply AE)<;>conv=>whnf))
  refine HI (z:=3) (en:=eQ) (CZ ⟨[[a,b],[c,d]],[p,q],[u,v],sD⟩ ⟨[[e,f],[g,h]],[r,s],[w,x],tD⟩).a rfl (λ_=>rfl) rfl rfl ?_;(conv=>whnf)
  repeat (refine GV rfl rfl ?_;(conv=>whnf))
  rw[<-hR]at j6 ⊢;exact AU rfl j6
theorem Lm (N:q8 L) (S T:B3) (n m k:Nat) (hS:S.Ok n k) (hT:T.Ok m k) (hn:n<=2) (hm:m<=2) (hk:k<=1000000) :
  Ev L 378 [.agg (eS S),.agg (eS T)] (.j4 [.agg (eS (CU S T)),.int .i64 0]):=by
 have z7:=WU N.too6 S n k hS (by omega);have z8:=WU N.too6 T m k hT (by omega);have hZ:=λ m:Nat=>λ hm=>(W2 N.tok6 m hm).2
 have jb:=λ m:Nat=>λ hm=>(W2 N.tok6 m hm).1
 have iz:=Ls N.tob8 hS.bd hT.bd (by omega) (by omega);have j6:=TP (CU S T) 0;obtain ⟨sl,sr,sb,sc,_,_,_,_⟩:=hS;obtain ⟨tl,tr,tb,tc,_,_,_,_⟩:=hT;obtain ⟨sA,sB,sC,sD⟩:=S;obtain ⟨tA,tB,tC,tD⟩:=T;simp only at *;obtain rfl|rfl|rfl:n=0\/n=1\/n=2:=by omega
 all_goals obtain rfl|rfl|rfl:m=0\/m=1\/m=2:=by omega
 ·obtain rfl:=List.length_eq_zero_iff.1 sl
  obtain rfl:=List.length_eq_zero_iff.1 sb;obtain rfl:=List.length_eq_zero_iff.1 sc;obtain rfl:=List.length_eq_zero_iff.1 tl;obtain rfl:=List.length_eq_zero_iff.1 tb;obtain rfl:=List.length_eq_zero_iff.1 tc;have bn:eS ⟨[],[],[],sD⟩=[.sl false [],.sl false [],.sl false []]++eQ sD:=rfl;have bq:eS ⟨[],[],[],tD⟩=[.sl false [],.sl false [],.sl false []]++eQ tD:=rfl;generalize hR:AV.j4 [.agg (eS (CU _ _)),.int .i64 0]=R at j6 ⊢;rw[bn]at z7 ⊢;rw[bq]at z8 ⊢;refine Ev.x N.E0 rfl rfl ?_;repeat (
   (repeat' ((first|(apply AG<;>intro hc<;>try omega)|(apply AZ;omega)|apply AE|refine AC (z7) ?_|refine AC (z8) ?_|refine AC (iz) ?_)<;>conv=>whnf))
   (first|refine CM 0 rfl ?_|refine CM 1 rfl ?_|refine CM 2 rfl ?_|refine GT rfl rfl ?_|refine DQ 0 (by omega) rfl rfl ?_|refine DQ 1 (by omega) rfl rfl ?_|refine CJ 2 rfl rfl rfl rfl ?_|refine CJ 3 rfl rfl rfl rfl ?_|refine CJ 4 rfl rfl rfl rfl ?_|refine CK 0 rfl rfl rfl rfl ?_|refine CK 1 rfl rfl rfl rfl ?_|refine CK 2 rfl rfl rfl rfl ?_|refine BK 0 rfl rfl rfl rfl rfl ?_|refine BK 1 rfl rfl rfl rfl rfl ?_|refine BK 2 rfl rfl rfl rfl rfl ?_|refine BK 3 rfl rfl rfl rfl rfl ?_|refine BK 4 rfl rfl rfl rfl rfl ?_|refine D5 (enc:=eQ) _ (jb _ (by omega)) (List.length_replicate ..).symm ?_|refine A3 rfl ?_|refine A3 ⟨rfl,by decide⟩ ?_|refine FK ?_)
   (conv=>whnf))
  skip
  repeat (refine GV rfl rfl ?_;(conv=>whnf))
  rw[<-hR]at j6 ⊢;exact AU rfl j6
 ·obtain rfl:=List.length_eq_zero_iff.1 sl
  obtain rfl:=List.length_eq_zero_iff.1 sb;obtain rfl:=List.length_eq_zero_iff.1 sc;obtain ⟨t0,rfl⟩:=BW tl;obtain ⟨e,rfl⟩:=BW (tr t0 (by simp));obtain ⟨r,rfl⟩:=BW tb;obtain ⟨w,rfl⟩:=BW tc;have bn:eS ⟨[],[],[],sD⟩=[.sl false [],.sl false [],.sl false []]++eQ sD:=rfl;have bq:eS ⟨[[e]],[r],[w],tD⟩=[.sl false [[.sl false [eQ e]]],.sl false [eQ r],.sl false [eQ w]]++eQ tD:=rfl;generalize hR:AV.j4 [.agg (eS (CU _ _)),.int .i64 0]=R at j6 ⊢;rw[bn]at z7 ⊢;rw[bq]at z8 ⊢;refine Ev.x N.E0 rfl rfl ?_;repeat (
   (repeat' ((first|(apply AG<;>intro hc<;>try omega)|(apply AZ;omega)|apply AE|refine AC (z7) ?_|refine AC (z8) ?_|refine AC (iz) ?_)<;>conv=>whnf))
   (first|refine CM 0 rfl ?_|refine CM 1 rfl ?_|refine CM 2 rfl ?_|refine GT rfl rfl ?_|refine DQ 0 (by omega) rfl rfl ?_|refine DQ 1 (by omega) rfl rfl ?_|refine CJ 2 rfl rfl rfl rfl ?_|refine CJ 3 rfl rfl rfl rfl ?_|refine CJ 4 rfl rfl rfl rfl ?_|refine CK 0 rfl rfl rfl rfl ?_|refine CK 1 rfl rfl rfl rfl ?_|refine CK 2 rfl rfl rfl rfl ?_|refine BK 0 rfl rfl rfl rfl rfl ?_|refine BK 1 rfl rfl rfl rfl rfl ?_|refine BK 2 rfl rfl rfl rfl rfl ?_|refine BK 3 rfl rfl rfl rfl rfl ?_|refine BK 4 rfl rfl rfl rfl rfl ?_|refine D5 (enc:=eQ) _ (jb _ (by omega)) (List.length_replicate ..).symm ?_|refine A3 rfl ?_|refine A3 ⟨rfl,by decide⟩ ?_|refine FK ?_)
   (conv=>whnf))
  skip
  refine HI (z:=3) (en:=eQ) (CU ⟨[],[],[],sD⟩ ⟨[[e]],[r],[w],tD⟩).a rfl (λ_=>rfl) rfl rfl ?_;(conv=>whnf)
  repeat (refine GV rfl rfl ?_;(conv=>whnf))
  rw[<-hR]at j6 ⊢;exact AU rfl j6
 ·obtain rfl:=List.length_eq_zero_iff.1 sl
  obtain rfl:=List.length_eq_zero_iff.1 sb;obtain rfl:=List.length_eq_zero_iff.1 sc;obtain ⟨t0,t1,rfl⟩:=BO tl;obtain ⟨e,f,rfl⟩:=BO (tr t0 (by simp));obtain ⟨g,h,rfl⟩:=BO (tr t1 (by simp));obtain ⟨r,s,rfl⟩:=BO tb;obtain ⟨w,x,rfl⟩:=BO tc;have bn:eS ⟨[],[],[],sD⟩=[.sl false [],.sl false [],.sl false []]++eQ sD:=rfl;have bq:eS ⟨[[e,f],[g,h]],[r,s],[w,x],tD⟩=[.sl false [[.sl false [eQ e,eQ f]],[.sl false [eQ g,eQ h]]],.sl false [eQ r,eQ s],.sl false [eQ w,eQ x]]++eQ tD:=rfl;generalize hR:AV.j4 [.agg (eS (CU _ _)),.int .i64 0]=R at j6 ⊢;rw[bn]at z7 ⊢;rw[bq]at z8 ⊢;refine Ev.x N.E0 rfl rfl ?_;repeat (
   (repeat' ((first|(apply AG<;>intro hc<;>try omega)|(apply AZ;omega)|apply AE|refine AC (z7) ?_|refine AC (z8) ?_|refine AC (iz) ?_)<;>conv=>whnf))
   (first|refine CM 0 rfl ?_|refine CM 1 rfl ?_|refine CM 2 rfl ?_|refine GT rfl rfl ?_|refine DQ 0 (by omega) rfl rfl ?_|refine DQ 1 (by omega) rfl rfl ?_|refine CJ 2 rfl rfl rfl rfl ?_|refine CJ 3 rfl rfl rfl rfl ?_|refine CJ 4 rfl rfl rfl rfl ?_|refine CK 0 rfl rfl rfl rfl ?_|refine CK 1 rfl rfl rfl rfl ?_|refine CK 2 rfl rfl rfl rfl ?_|refine BK 0 rfl rfl rfl rfl rfl ?_|refine BK 1 rfl rfl rfl rfl rfl ?_|refine BK 2 rfl rfl rfl rfl rfl ?_|refine BK 3 rfl rfl rfl rfl rfl ?_|refine BK 4 rfl rfl rfl rfl rfl ?_|refine D5 (enc:=eQ) _ (jb _ (by omega)) (List.length_replicate ..).symm ?_|refine A3 rfl ?_|refine A3 ⟨rfl,by decide⟩ ?_|refine FK ?_)
   (conv=>whnf))
  skip
  refine HI (z:=3) (en:=eQ) (CU ⟨[],[],[],sD⟩ ⟨[[e,f],[g,h]],[r,s],[w,x],tD⟩).a rfl (λ_=>rfl) rfl rfl ?_;(conv=>whnf)
  repeat (refine GV rfl rfl ?_;(conv=>whnf))
  rw[<-hR]at j6 ⊢;exact AU rfl j6
 ·obtain ⟨s0,rfl⟩:=BW sl
  obtain ⟨a,rfl⟩:=BW (sr s0 (by simp));obtain ⟨p,rfl⟩:=BW sb;obtain ⟨u,rfl⟩:=BW sc;obtain rfl:=List.length_eq_zero_iff.1 tl;obtain rfl:=List.length_eq_zero_iff.1 tb;obtain rfl:=List.length_eq_zero_iff.1 tc;have bn:eS ⟨[[a]],[p],[u],sD⟩=[.sl false [[.sl false [eQ a]]],.sl false [eQ p],.sl false [eQ u]]++eQ sD:=rfl;have bq:eS ⟨[],[],[],tD⟩=[.sl false [],.sl false [],.sl false []]++eQ tD:=rfl;generalize hR:AV.j4 [.agg (eS (CU _ _)),.int .i64 0]=R at j6 ⊢;rw[bn]at z7 ⊢;rw[bq]at z8 ⊢;refine Ev.x N.E0 rfl rfl ?_;repeat (
   (repeat' ((first|(apply AG<;>intro hc<;>try omega)|(apply AZ;omega)|apply AE|refine AC (z7) ?_|refine AC (z8) ?_|refine AC (hZ _ (by omega)) ?_|refine AC (iz) ?_)<;>conv=>whnf))
   (first|refine CM 0 rfl ?_|refine CM 1 rfl ?_|refine CM 2 rfl ?_|refine GT rfl rfl ?_|refine DQ 0 (by omega) rfl rfl ?_|refine DQ 1 (by omega) rfl rfl ?_|refine CJ 2 rfl rfl rfl rfl ?_|refine CJ 3 rfl rfl rfl rfl ?_|refine CJ 4 rfl rfl rfl rfl ?_|refine CK 0 rfl rfl rfl rfl ?_|refine CK 1 rfl rfl rfl rfl ?_|refine CK 2 rfl rfl rfl rfl ?_|refine BK 0 rfl rfl rfl rfl rfl ?_|refine BK 1 rfl rfl rfl rfl rfl ?_|refine BK 2 rfl rfl rfl rfl rfl ?_|refine BK 3 rfl rfl rfl rfl rfl ?_|refine BK 4 rfl rfl rfl rfl rfl ?_|refine D5 (enc:=eQ) _ (jb _ (by omega)) (List.length_replicate ..).symm ?_|refine A3 rfl ?_|refine A3 ⟨rfl,by decide⟩ ?_|refine FK ?_)
   (conv=>whnf))
  skip
  refine HI (z:=3) (en:=eQ) (CU ⟨[[a]],[p],[u],sD⟩ ⟨[],[],[],tD⟩).a rfl (λ_=>rfl) rfl rfl ?_;(conv=>whnf)
  repeat (refine GV rfl rfl ?_;(conv=>whnf))
  rw[<-hR]at j6 ⊢;exact AU rfl j6
 ·obtain ⟨s0,rfl⟩:=BW sl
  obtain ⟨a,rfl⟩:=BW (sr s0 (by simp));obtain ⟨p,rfl⟩:=BW sb;obtain ⟨u,rfl⟩:=BW sc;obtain ⟨t0,rfl⟩:=BW tl;obtain ⟨e,rfl⟩:=BW (tr t0 (by simp));obtain ⟨r,rfl⟩:=BW tb;obtain ⟨w,rfl⟩:=BW tc;have bn:eS ⟨[[a]],[p],[u],sD⟩=[.sl false [[.sl false [eQ a]]],.sl false [eQ p],.sl false [eQ u]]++eQ sD:=rfl;have bq:eS ⟨[[e]],[r],[w],tD⟩=[.sl false [[.sl false [eQ e]]],.sl false [eQ r],.sl false [eQ w]]++eQ tD:=rfl;generalize hR:AV.j4 [.agg (eS (CU _ _)),.int .i64 0]=R at j6 ⊢;rw[bn]at z7 ⊢;rw[bq]at z8 ⊢;refine Ev.x N.E0 rfl rfl ?_;repeat (
   (repeat' ((first|(apply AG<;>intro hc<;>try omega)|(apply AZ;omega)|apply AE|refine AC (z7) ?_|refine AC (z8) ?_|refine AC (hZ _ (by omega)) ?_|refine AC (iz) ?_)<;>conv=>whnf))
   (first|refine CM 0 rfl ?_|refine CM 1 rfl ?_|refine CM 2 rfl ?_|refine GT rfl rfl ?_|refine DQ 0 (by omega) rfl rfl ?_|refine DQ 1 (by omega) rfl rfl ?_|refine CJ 2 rfl rfl rfl rfl ?_|refine CJ 3 rfl rfl rfl rfl ?_|refine CJ 4 rfl rfl rfl rfl ?_|refine CK 0 rfl rfl rfl rfl ?_|refine CK 1 rfl rfl rfl rfl ?_|refine CK 2 rfl rfl rfl rfl ?_|refine BK 0 rfl rfl rfl rfl rfl ?_|refine BK 1 rfl rfl rfl rfl rfl ?_|refine BK 2 rfl rfl rfl rfl rfl ?_|refine BK 3 rfl rfl rfl rfl rfl ?_|refine BK 4 rfl rfl rfl rfl rfl ?_|refine D5 (enc:=eQ) _ (jb _ (by omega)) (List.length_replicate ..).symm ?_|refine A3 rfl ?_|refine A3 ⟨rfl,by decide⟩ ?_|refine FK ?_)
   (conv=>whnf))
  skip
  refine HI (z:=3) (en:=eQ) (CU ⟨[[a]],[p],[u],sD⟩ ⟨[[e]],[r],[w],tD⟩).a rfl (λ_=>rfl) rfl rfl ?_;(conv=>whnf)
  repeat (refine GV rfl rfl ?_;(conv=>whnf))
  rw[<-hR]at j6 ⊢;exact AU rfl j6
 ·obtain ⟨s0,rfl⟩:=BW sl
  obtain ⟨a,rfl⟩:=BW (sr s0 (by simp));obtain ⟨p,rfl⟩:=BW sb;obtain ⟨u,rfl⟩:=BW sc;obtain ⟨t0,t1,rfl⟩:=BO tl;obtain ⟨e,f,rfl⟩:=BO (tr t0 (by simp));obtain ⟨g,h,rfl⟩:=BO (tr t1 (by simp));obtain ⟨r,s,rfl⟩:=BO tb;obtain ⟨w,x,rfl⟩:=BO tc;have bn:eS ⟨[[a]],[p],[u],sD⟩=[.sl false [[.sl false [eQ a]]],.sl false [eQ p],.sl false [eQ u]]++eQ sD:=rfl;have bq:eS ⟨[[e,f],[g,h]],[r,s],[w,x],tD⟩=[.sl false [[.sl false [eQ e,eQ f]],[.sl false [eQ g,eQ h]]],.sl false [eQ r,eQ s],.sl false [eQ w,eQ x]]++eQ tD:=rfl;generalize hR:AV.j4 [.agg (eS (CU _ _)),.int .i64 0]=R at j6 ⊢;rw[bn]at z7 ⊢;rw[bq]at z8 ⊢;refine Ev.x N.E0 rfl rfl ?_;repeat (
   (repeat' ((first|(apply AG<;>intro hc<;>try omega)|(apply AZ;omega)|apply AE|refine AC (z7) ?_|refine AC (z8) ?_|refine AC (hZ _ (by omega)) ?_|refine AC (iz) ?_)<;>conv=>whnf))
   (first|refine CM 0 rfl ?_|refine CM 1 rfl ?_|refine CM 2 rfl ?_|refine GT rfl rfl ?_|refine DQ 0 (by omega) rfl rfl ?_|refine DQ 1 (by omega) rfl rfl ?_|refine CJ 2 rfl rfl rfl rfl ?_|refine CJ 3 rfl rfl rfl rfl ?_|refine CJ 4 rfl rfl rfl rfl ?_|refine CK 0 rfl rfl rfl rfl ?_|refine CK 1 rfl rfl rfl rfl ?_|refine CK 2 rfl rfl rfl rfl ?_|refine BK 0 rfl rfl rfl rfl rfl ?_|refine BK 1 rfl rfl rfl rfl rfl ?_|refine BK 2 rfl rfl rfl rfl rfl ?_|refine BK 3 rfl rfl rfl rfl rfl ?_|refine BK 4 rfl rfl rfl rfl rfl ?_|refine D5 (enc:=eQ) _ (jb _ (by omega)) (List.length_replicate ..).symm ?_|refine A3 rfl ?_|refine A3 ⟨rfl,by decide⟩ ?_|refine FK ?_)
   (conv=>whnf))
  skip
  refine HI (z:=3) (en:=eQ) (CU ⟨[[a]],[p],[u],sD⟩ ⟨[[e,f],[g,h]],[r,s],[w,x],tD⟩).a rfl (λ_=>rfl) rfl rfl ?_;(conv=>whnf)
  repeat (refine GV rfl rfl ?_;(conv=>whnf))
  rw[<-hR]at j6 ⊢;exact AU rfl j6
 ·obtain ⟨s0,s1,rfl⟩:=BO sl
  obtain ⟨a,b,rfl⟩:=BO (sr s0 (by simp));obtain ⟨c,d,rfl⟩:=BO (sr s1 (by simp));obtain ⟨p,q,rfl⟩:=BO sb;obtain ⟨u,v,rfl⟩:=BO sc;obtain rfl:=List.length_eq_zero_iff.1 tl;obtain rfl:=List.length_eq_zero_iff.1 tb;obtain rfl:=List.length_eq_zero_iff.1 tc;have bn:eS ⟨[[a,b],[c,d]],[p,q],[u,v],sD⟩=[.sl false [[.sl false [eQ a,eQ b]],[.sl false [eQ c,eQ d]]],.sl false [eQ p,eQ q],.sl false [eQ u,eQ v]]++eQ sD:=rfl;have bq:eS ⟨[],[],[],tD⟩=[.sl false [],.sl false [],.sl false []]++eQ tD:=rfl;generalize hR:AV.j4 [.agg (eS (CU _ _)),.int .i64 0]=R at j6 ⊢;rw[bn]at z7 ⊢;rw[bq]at z8 ⊢;refine Ev.x N.E0 rfl rfl ?_;repeat (
   (repeat' ((first|(apply AG<;>intro hc<;>try omega)|(apply AZ;omega)|apply AE|refine AC (z7) ?_|refine AC (z8) ?_|refine AC (hZ _ (by omega)) ?_|refine AC (iz) ?_)<;>conv=>whnf))
   (first|refine CM 0 rfl ?_|refine CM 1 rfl ?_|refine CM 2 rfl ?_|refine GT rfl rfl ?_|refine DQ 0 (by omega) rfl rfl ?_|refine DQ 1 (by omega) rfl rfl ?_|refine CJ 2 rfl rfl rfl rfl ?_|refine CJ 3 rfl rfl rfl rfl ?_|refine CJ 4 rfl rfl rfl rfl ?_|refine CK 0 rfl rfl rfl rfl ?_|refine CK 1 rfl rfl rfl rfl ?_|refine CK 2 rfl rfl rfl rfl ?_|refine BK 0 rfl rfl rfl rfl rfl ?_|refine BK 1 rfl rfl rfl rfl rfl ?_|refine BK 2 rfl rfl rfl rfl rfl ?_|refine BK 3 rfl rfl rfl rfl rfl ?_|refine BK 4 rfl rfl rfl rfl rfl ?_|refine D5 (enc:=eQ) _ (jb _ (by omega)) (List.length_replicate ..).symm ?_|refine A3 rfl ?_|refine A3 ⟨rfl,by decide⟩ ?_|refine FK ?_)
   (conv=>whnf))
  skip
  refine HI (z:=3) (en:=eQ) (CU ⟨[[a,b],[c,d]],[p,q],[u,v],sD⟩ ⟨[],[],[],tD⟩).a rfl (λ_=>rfl) rfl rfl ?_;(conv=>whnf)
  repeat (refine GV rfl rfl ?_;(conv=>whnf))
  rw[<-hR]at j6 ⊢;exact AU rfl j6
 ·obtain ⟨s0,s1,rfl⟩:=BO sl
  obtain ⟨a,b,rfl⟩:=BO (sr s0 (by simp));obtain ⟨c,d,rfl⟩:=BO (sr s1 (by simp));obtain ⟨p,q,rfl⟩:=BO sb;obtain ⟨u,v,rfl⟩:=BO sc;obtain ⟨t0,rfl⟩:=BW tl;obtain ⟨e,rfl⟩:=BW (tr t0 (by simp));obtain ⟨r,rfl⟩:=BW tb;obtain ⟨w,rfl⟩:=BW tc;have bn:eS ⟨[[a,b],[c,d]],[p,q],[u,v],sD⟩=[.sl false [[.sl false [eQ a,eQ b]],[.sl false [eQ c,eQ d]]],.sl false [eQ p,eQ q],.sl false [eQ u,eQ v]]++eQ sD:=rfl;have bq:eS ⟨[[e]],[r],[w],tD⟩=[.sl false [[.sl false [eQ e]]],.sl false [eQ r],.sl false [eQ w]]++eQ tD:=rfl;generalize hR:AV.j4 [.agg (eS (CU _ _)),.int .i64 0]=R at j6 ⊢;rw[bn]at z7 ⊢;rw[bq]at z8 ⊢;refine Ev.x N.E0 rfl rfl ?_;repeat (
   (repeat' ((first|(apply AG<;>intro hc<;>try omega)|(apply AZ;omega)|apply AE|refine AC (z7) ?_|refine AC (z8) ?_|refine AC (hZ _ (by omega)) ?_|refine AC (iz) ?_)<;>conv=>whnf))
   (first|refine CM 0 rfl ?_|refine CM 1 rfl ?_|refine CM 2 rfl ?_|refine GT rfl rfl ?_|refine DQ 0 (by omega) rfl rfl ?_|refine DQ 1 (by omega) rfl rfl ?_|refine CJ 2 rfl rfl rfl rfl ?_|refine CJ 3 rfl rfl rfl rfl ?_|refine CJ 4 rfl rfl rfl rfl ?_|refine CK 0 rfl rfl rfl rfl ?_|refine CK 1 rfl rfl rfl rfl ?_|refine CK 2 rfl rfl rfl rfl ?_|refine BK 0 rfl rfl rfl rfl rfl ?_|refine BK 1 rfl rfl rfl rfl rfl ?_|refine BK 2 rfl rfl rfl rfl rfl ?_|refine BK 3 rfl rfl rfl rfl rfl ?_|refine BK 4 rfl rfl rfl rfl rfl ?_|refine D5 (enc:=eQ) _ (jb _ (by omega)) (List.length_replicate ..).symm ?_|refine A3 rfl ?_|refine A3 ⟨rfl,by decide⟩ ?_|refine FK ?_)
   (conv=>whnf))
  skip
  refine HI (z:=3) (en:=eQ) (CU ⟨[[a,b],[c,d]],[p,q],[u,v],sD⟩ ⟨[[e]],[r],[w],tD⟩).a rfl (λ_=>rfl) rfl rfl ?_;(conv=>whnf)
  repeat (refine GV rfl rfl ?_;(conv=>whnf))
  rw[<-hR]at j6 ⊢;exact AU rfl j6
 ·obtain ⟨s0,s1,rfl⟩:=BO sl
  obtain ⟨a,b,rfl⟩:=BO (sr s0 (by simp));obtain ⟨c,d,rfl⟩:=BO (sr s1 (by simp));obtain ⟨p,q,rfl⟩:=BO sb;obtain ⟨u,v,rfl⟩:=BO sc;obtain ⟨t0,t1,rfl⟩:=BO tl;obtain ⟨e,f,rfl⟩:=BO (tr t0 (by simp));obtain ⟨g,h,rfl⟩:=BO (tr t1 (by simp));obtain ⟨r,s,rfl⟩:=BO tb;obtain ⟨w,x,rfl⟩:=BO tc;have bn:eS ⟨[[a,b],[c,d]],[p,q],[u,v],sD⟩=[.sl false [[.sl false [eQ a,eQ b]],[.sl false [eQ c,eQ d]]],.sl false [eQ p,eQ q],.sl false [eQ u,eQ v]]++eQ sD:=rfl;have bq:eS ⟨[[e,f],[g,h]],[r,s],[w,x],tD⟩=[.sl false [[.sl false [eQ e,eQ f]],[.sl false [eQ g,eQ h]]],.sl false [eQ r,eQ s],.sl false [eQ w,eQ x]]++eQ tD:=rfl;generalize hR:AV.j4 [.agg (eS (CU _ _)),.int .i64 0]=R at j6 ⊢;rw[bn]at z7 ⊢;rw[bq]at z8 ⊢;refine Ev.x N.E0 rfl rfl ?_;repeat (
   (repeat' ((first|(apply AG<;>intro hc<;>try omega)|(apply AZ;omega)|apply AE|refine AC (z7) ?_|refine AC (z8) ?_|refine AC (hZ _ (by omega)) ?_|refine AC (iz) ?_)<;>conv=>whnf))
   (first|refine CM 0 rfl ?_|refine CM 1 rfl ?_|refine CM 2 rfl ?_|refine GT rfl rfl ?_|refine DQ 0 (by omega) rfl rfl ?_|refine DQ 1 (by omega) rfl rfl ?_|refine CJ 2 rfl rfl rfl rfl ?_|refine CJ 3 rfl rfl rfl rfl ?_|refine CJ 4 rfl rfl rfl rfl ?_|refine CK 0 rfl rfl rfl rfl ?_|refine CK 1 rfl rfl rfl rfl ?_|refine CK 2 rfl rfl rfl rfl ?_|refine BK 0 rfl rfl rfl rfl rfl ?_|refine BK 1 rfl rfl rfl rfl rfl ?_|refine BK 2 rfl rfl rfl rfl rfl ?_|refine BK 3 rfl rfl rfl rfl rfl ?_|refine BK 4 rfl rfl rfl rfl rfl ?_|refine D5 (enc:=eQ) _ (jb _ (by omega)) (List.length_replicate ..).symm ?_|refine A3 rfl ?_|refine A3 ⟨rfl,by decide⟩ ?_|refine FK ?_)
   (conv=>whnf))
  skip
  refine HI (z:=3) (en:=eQ) (CU ⟨[[a,b],[c,d]],[p,q],[u,v],sD⟩ ⟨[[e,f],[g,h]],[r,s],[w,x],tD⟩).a rfl (λ_=>rfl) rfl rfl ?_;(conv=>whnf)
  repeat (refine GV rfl rfl ?_;(conv=>whnf))
  rw[<-hR]at j6 ⊢;exact AU rfl j6
theorem Kr (N:q8 L) (n1:L.num 95=SF) (l m:List Int) (size other:Int) (q1 q2:Bool) (hl : ∀ v∈l,HR v) (hm : ∀ v∈m,HR v) (hs:HR size) (ho:HR other) :
  Ev L 382 [.sl q1 (l.map QK),.sl q2 (m.map QK),.int .i64 size,.int .i64 other] (.bool true):=by
 have W:s9 L:=N.tos9;have T:au L:=N.toau;have A:y5 L:=N.toy5;have Ze:=Kq N.tofj;obtain ⟨g1,g2⟩:=rR (v:=size) (m:=3) (by omega);obtain ⟨g3,g4⟩:=rR (v:=other) (m:=3) (by omega);have Xt:=aF W size 3 hs (by omega);have Xu:=aF W other 3 ho (by omega);generalize GG size 3=z1 at *;generalize GG other 3=z2 at *;obtain ⟨n,rfl⟩:=Int.eq_ofNat_of_zero_le g1;obtain ⟨k,rfl⟩:=Int.eq_ofNat_of_zero_le g3;have z7:=λ q=>jN T l q n hl (by omega)
 have z8:=λ q=>jN T m q k hm (by omega)
 have gy:=qV l n;have ia:=qV m k;generalize PU l n=S at *;generalize PU m k=U at *;have hn:n<=2:=by omega
 have hk:k<=2:=by omega
 have Ec:=(cV gy ia).le (show 4+4<=80 by omega);have Ed:=(cC gy ia).le (show 4+4+1<=80 by omega);have Wx:=Lp N n1 S U n k 4 gy ia (by omega) (by omega) (by omega);have Wy:=Lq N S U n k 4 gy ia hn hk (by omega);have Wz:=Ll N n1 S U n k 4 gy ia (by omega) (by omega) (by omega);have Xa:=Lm N S U n k 4 gy ia hn hk (by omega);have Dx:=WW A S n (gy.le (by omega)) (by omega);have ye:=WW A U k (ia.le (by omega)) (by omega);have Cd:=WW A (CZ S U) (n+k) Ec (by omega);have Xo:=WW A (CU S U) (n+k) Ed (by omega);obtain ⟨bA,bB⟩:=rC (gy.le (show 4<=80 by omega)) hn;obtain ⟨bC,bD⟩:=rC (ia.le (show 4<=80 by omega)) hk;obtain ⟨lA,lB⟩:=JK S n;obtain ⟨lC,lD⟩:=JK U k;obtain ⟨p1,p2⟩:=Vl gy ia hn hk;obtain ⟨p3,p4⟩:=So gy ia hn hk;have Xl:=Nj N (CN S n) (BN S n) (CN U k) (BN U k) _ _ 100000 (SY S n) (SX S n) (SY U k) (SX U k) (by omega) (by omega) (by omega) (by omega) bB bA bD bC (by omega) (YH S n) (YH U k) (SY _ _) (SX _ _) p1 p2;have Hy:=Ps N (CN S n) (BN S n) (CN U k) (BN U k) _ _ 100000 (SY S n) (SX S n) (SY U k) (SX U k) (by omega) (by omega) (by omega) (by omega) bB bA bD bC (by omega) (YH S n) (YH U k) (SY _ _) (SX _ _) p3 p4;obtain ⟨b1,b2⟩:=qZ Ec (by omega);obtain ⟨b3,b4⟩:=qZ Ed (by omega);obtain ⟨m1,m2⟩:=JK (CZ S U) (n+k);obtain ⟨m3,m4⟩:=JK (CU S U) (n+k);have Xc:=jM N.todi (CN (CZ S U) (n+k)) (BN (CZ S U) (n+k)) 510000000 b2 (b1.le (by omega)) (by omega) (by omega) (by omega);have Xd:=jM N.todi (CN (CU S U) (n+k)) (BN (CU S U) (n+k)) 510000000 b4 (b3.le (by omega)) (by omega) (by omega) (by omega);have Xy:Ev L 167 [.agg (eS (CZ S U)),.agg (eS (CZ S U))] (.bool true):=ZZ N.tobz (CZ S U) (n+k) 80 false Ec (by omega) (by omega);have Xz:Ev L 167 [.agg (eS (CU S U)),.agg (eS (CU S U))] (.bool true):=ZZ N.tobz (CU S U) (n+k) 80 false Ed (by omega) (by omega);clear p1 p2 p3 p4 b1 b2 b3 b4 bA bB bC bD;generalize CN (CZ S U) (n+k)=x1 at *;generalize BN (CZ S U) (n+k)=x2 at *;generalize CN (CU S U) (n+k)=x3 at *;generalize BN (CU S U) (n+k)=x4 at *;generalize CN S n=y1 at *;generalize BN S n=y2 at *;generalize CN U k=y3 at *;generalize BN U k=y4 at *;generalize CZ S U=Z1 at *;generalize CU S U=Z2 at *;refine Ev.x N.KL rfl rfl ?_;(repeat' ((first|(apply AG<;>intro hc<;>try omega)|apply AE|refine AC (Xt) ?_|refine AC (Xu) ?_|refine AC (z7 _) ?_|refine AC (z8 _) ?_|refine AC (Wx) ?_|refine AC (Wy) ?_|refine AC (Wz) ?_|refine AC (Xa) ?_|refine AC (Dx) ?_|refine AC (ye) ?_|refine AC (Cd) ?_|refine AC (Xo) ?_|refine AC (Xl) ?_|refine AC (Hy) ?_|refine AC (Xc) ?_|refine AC (Xd) ?_|refine AC (Xy) ?_|refine AC (Xz) ?_|refine AC (Ze) ?_)<;>conv=>whnf))
 exact HQ rfl
end Go.e9
