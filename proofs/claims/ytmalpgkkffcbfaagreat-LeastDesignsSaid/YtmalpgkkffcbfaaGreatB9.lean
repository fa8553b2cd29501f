/-
  Natural numbers (layer 1): shifts by less than a digit, leading zeros.
-/
import Derived.Test.YtmalpgkkffcbfaaGreatB8
import Derived.Test.YtmalpgkkffcbfaaGreatB2
import Derived.Test.YtmalpgkkffcbfaaGreatB7
import Derived.Test.YtmalpgkkffcbfaaGreatB1
set_option linter.unusedSimpArgs false
set_option linter.unusedVariables false
set_option linter.unnecessarySimpa false
namespace Go.b8
open F
section
variable {K:AV->Prop} {a b s:Nat} {k':IntKind}
theorem jQ (hs:s<=32) (hk:K (.int .u32 ((PE a s:Nat):Int))):AC .shl .u32 (a:Int) k' (s:Int) K:=by
 refine aI (show s<=IntKind.u32.bits from hs) ?_;rw[wrap_u32,<-gR];exact hk
theorem OP (hs:s<=64) (h:a*2^s<=18446744073709551615) (hk:K (.int .u64 ((a*2^s:Nat):Int))):AC .shl .u64 (a:Int) k' (s:Int) K:=by
 refine aI (show s<=IntKind.u64.bits from hs) ?_;rw[IntWalk.u64_in _ (by omega)];exact hk
theorem aJ (n:Nat) (hx:a%2^n=0) (hy:b<2^n) (h:a+b<=4294967295) (hk:K (.int .u32 ((a+b:Nat):Int))):AC .or .u32 (a:Int) .u32 (b:Int) K :=
 aH n hx hy (show a+b<4294967296 by omega) (IntWalk.u32_in _ (by omega)) hk
theorem zO (n:Nat) (hx:b%2^n=0) (hy:a<2^n) (h:a+b<=4294967295) (hk:K (.int .u32 ((a+b:Nat):Int))):AC .or .u32 (a:Int) .u32 (b:Int) K:=by
 have e:C9 .or .u32 (a:Int) .u32 (b:Int)=C9 .or .u32 (b:Int) .u32 (a:Int):=by
  simp only[C9,if_true,BitVec.or_comm]
 rw[Nat.add_comm]at hk h;obtain ⟨v,h1,h2⟩:=aJ (K:=K) n hx hy h hk;exact ⟨v,by rw[e];exact h1,h2⟩
theorem zU (hs:s<=32) (hk:K (.int .u32 ((a/2^s:Nat):Int))):AC .shr .u32 (a:Int) k' (s:Int) K:=OO (show s<=IntKind.u32.bits from hs) hk
end
attribute [local irreducible] AA AF AQ AC CI AW A5 A9 B4 B3 CE DE BX A3 BW CD AB A4 AJ pw BV BN CS CR C1 CY CT BL DD
set_option maxHeartbeats 1000000
variable {L:Lib}
def aG (a:List Nat) (s:Nat) (o:List Nat):Prop:=A0 o/\(a.length<=o.length/\o.length<=a.length+1)/\(val a*2^s<4294967296^o.length->val o=val a*2^s)
theorem Afn {a o:List Nat} {s lo:Nat} (hD:A0 o) (hl:o.length=a.length) (h:val (o.take a.length)+4294967296^a.length*lo=val (a.take a.length)*2^s):aG a s o:=by
 refine ⟨hD,by omega,λ g9 => ?_⟩;rw[C3 (by omega),C3 (Nat.le_refl _)]at h;rw[hl]at g9;have:lo=0:=by
  rcases Nat.eq_zero_or_pos lo with h0|h0
  ·exact h0
  ·have:4294967296^a.length*1<=4294967296^a.length*lo:=Nat.mul_le_mul_left _ h0
   omega
 subst this;omega
theorem rC {a o:List Nat} {s lo:Nat} (hD:A0 o) (og:lo<4294967296) (hl:o.length=a.length+1) (h:val (o.take a.length)+4294967296^a.length*lo=val (a.take a.length)*2^s):aG a s (o.set a.length lo):=by
 refine ⟨hD.set _ og,by simp;omega,λ_ => ?_⟩;have h1:=FO (v:=lo) (show a.length<o.length by omega);rw[C3 (by simp;omega),h,C3 (Nat.le_refl _)]at h1;exact h1
theorem Zo (N:c6 L) (a:List Nat) (q:Bool) (s n:Nat) (hA:A0 a) (hs:s<=31) (hn:a.length<=n/\n<=a.length+1) (la:a.length<=1099511627776) : ∃ r,Ev L 71 [.sl q (a.map AL),.int .u64 (s:Int),.int .i64 (n:Int)] r /\ ∃ o,aG a s o/\o.length=n/\r = .sl false (o.map AL):=by
 refine Ev.xE N.I8 rfl rfl ?_;(repeat' (apply AE<;>conv=>whnf))
 refine EJ (enc:=AL) 0 n rfl rfl (by omega) ?_;(conv=>whnf)
 (repeat' (apply AU<;>conv=>whnf))
 refine FV (λ i _ _=>a.length-i) (λ(i:Nat) (o:List Nat) (lo:Nat)=>i<=a.length/\o.length=n/\A0 o/\lo<2^s/\val (o.take i)+4294967296^i*lo=val (a.take i)*2^s) (λ i o lo=>[(8,.int .u32 (lo:Int)),(15,.int .i64 i)]) (λ i o lo=>[(71012,71012,.rw 1 (o.map AL))]) 0 (List.replicate n 0) 0 ⟨by omega,by simp,IG _,Nat.two_pow_pos s,by simp [val]⟩ ?_;intro i o lo ⟨p1,p2,p3,p4,p5⟩ ih;have ti:=VO (s:=s) (by omega);by_cases hi:i<a.length
 ·obtain ⟨d,hd⟩ : ∃ d,a[i]? = some d:=⟨_,zE hi⟩
  have bb:=hA.at hd;obtain ⟨f1,f2,f3,f4⟩:=RV (s:=s) bb (by omega);(repeat' ((first|(apply AG<;>intro hc<;>try omega)|(refine BA (by assumption) ?_ rfl ?_;omega)|apply AE)<;>conv=>whnf))
  refine jQ (by omega) ?_;(conv=>whnf)
  skip
  refine aJ s f1 p4 (by omega) ?_;(conv=>whnf)
  (repeat' ((first|(apply AY;omega)|fail)<;>conv=>whnf))
  refine E6 (by omega) ?_;(conv=>whnf)
  (repeat' ((first|(apply CF;omega)|fail)<;>conv=>whnf))
  refine OP (by omega) f4 ?_;(conv=>whnf)
  (repeat' ((first|(apply AZ;omega)|apply FA|(apply EA;omega))<;>conv=>whnf))
  rw[<-RU];refine BS [] (by (conv=>whnf);exact ⟨rfl,rfl,rfl⟩) (ih (i+1) _ _ (by omega) ⟨by omega,by simpa using p2,p3.set _ (by omega),f2,?_⟩);rw[FO (by omega),DX hd,Nat.pow_succ];exact rD p5
 ·obtain rfl:i=a.length:=by omega
  clear ih;(repeat' ((first|(apply AG<;>intro hc<;>try omega)|(apply AY;omega)|apply AU|apply AE)<;>conv=>whnf))
  ·refine E6 (by omega) ?_
   (conv=>whnf)
   skip
   refine ⟨_,?_,_,rC p3 (by omega) (by omega) p5,by simpa using p2,rfl⟩;(conv=>whnf)
   refine EE (enc:=AL) (λ_=>rfl) rfl (by simp [p2]) ?_;(conv=>whnf)
   exact AX rfl (by simp only[A2,true_and];exact B5 _)
  ·refine ⟨_,?_,_,Afn p3 (by omega) p5,p2,rfl⟩
   (conv=>whnf)
   refine EE (enc:=AL) (λ_=>rfl) rfl (by simp [p2]) ?_;(conv=>whnf)
   exact AX rfl (by simp only[A2,true_and];exact B5 _)
theorem Zp (N:c6 L) (a:List Nat) (q:Bool) (s:Nat) (hA:A0 a) (hs:s<=31) (la:a.length<=1099511627776) : ∃ r,Ev L 72 [.sl q (a.map AL),.int .u64 (s:Int)] r /\ ∃ o,A0 o/\o.length=a.length/\val o=val a/2^s/\r = .sl false (o.map AL):=by
 refine Ev.xE N.LV rfl rfl ?_;(repeat' ((first|apply AU|apply AE)<;>conv=>whnf))
 refine EJ (enc:=AL) 0 a.length rfl rfl (by omega) ?_;(conv=>whnf)
 (repeat' ((first|(apply B1;omega)|apply AU)<;>conv=>whnf))
 refine FV (λ n _ _=>n) (λ(n:Nat) (o:List Nat) (hi:Nat)=>n<=a.length/\o.length=a.length/\A0 o/\hi=val (a.drop n)%2^s*2^(32-s)/\val (o.drop n)=val (a.drop n)/2^s) (λ n o hi=>[(6,.int .u32 (hi:Int)),(7,.int .i64 ((n:Int)-1))]) (λ n o hi=>[(10,10,.rw 1 (o.map AL))]) a.length (List.replicate a.length 0) 0 ⟨by omega,by simp,IG _,by rw[List.drop_of_length_le (Nat.le_refl _)];simp [val],by rw[List.drop_of_length_le (Nat.le_refl _),List.drop_of_length_le (by simp)];simp [val]⟩ ?_;intro n o hi ⟨p1,p2,p3,p4,p5⟩ ih;rcases n with _|n
 ·(repeat' ((first|(apply AG<;>intro hc<;>try omega)|apply AE)<;>conv=>whnf))
  rw[List.drop_zero,List.drop_zero]at p5;refine ⟨_,?_,_,p3,p2,p5,rfl⟩;(conv=>whnf)
  refine EE (enc:=AL) (λ_=>rfl) rfl p2.symm ?_;(conv=>whnf)
  exact AX rfl (by simp only[A2,true_and];exact B5 _)
 ·have e1:((n+1:Nat):Int)-1=n:=by omega
  rw[e1];obtain ⟨d,hd⟩ : ∃ d,a[n]? = some d:=⟨_,zE (by omega)⟩;have bb:=hA.at hd;obtain ⟨f1,f2,f3⟩:=rH (V:=val (a.drop (n+1))) bb (show s<=32 by omega);obtain ⟨g1,g2,g3,g4⟩:=RV bb (show 32-s<=32 by omega);rw[<-p4]at f2 f3;(repeat' ((first|(apply AG<;>intro hc<;>try omega)|(refine BA (by assumption) ?_ rfl ?_;omega)|apply AE)<;>conv=>whnf))
  refine zU (by omega) ?_;(conv=>whnf)
  skip
  refine zO (32-s) f2 f1 (by omega) ?_;(conv=>whnf)
  (repeat' ((first|(apply AY;omega)|fail)<;>conv=>whnf))
  refine E6 (by omega) ?_;(conv=>whnf)
  (repeat' ((first|(apply WX;omega)|(apply CF;omega)|(refine BA (by assumption) ?_ rfl ?_;omega))<;>conv=>whnf))
  rw[show EH 32 s=32-s by rw[R7];omega];refine OP (by omega) g4 ?_;(conv=>whnf)
  (repeat' ((first|(apply B1;omega)|apply FI)<;>conv=>whnf))
  rw[Afu (by omega)];refine BS [] (by (conv=>whnf);exact ⟨rfl,rfl,rfl⟩) (ih n _ _ (by omega) ⟨by omega,by simpa using p2,p3.set _ (by omega),?_,?_⟩)
  ·rw[GX hd,rI (by omega)]
  ·rw[GX (l:=o.set n (d/2^s+hi)) (d:=d/2^s+hi) (by rw[List.getElem?_set_self (by omega)]),List.drop_set_of_lt (by omega),p5,GX hd,eH (by omega),<-p4]
theorem YK : ∀ n<256,(List.replicate 1 0++List.replicate 1 1++List.replicate 2 2++List.replicate 4 3++List.replicate 8 4++List.replicate 16 5++List.replicate 32 6++List.replicate 64 7++List.replicate 128 8)[n]? = some (m6 n):=by decide +kernel
theorem Wx (N:c6 L) (x:Nat) (hx:x<4294967296):Ev L 63 [.int .u32 (x:Int)] (.int .i64 (m6 x:Int)):=by
 have jg : ∀ y<256,m6 y<=8:=λ y h=>W9 (k:=8) h
 refine Ev.x N.LI rfl rfl ?_;(repeat' ((first|(apply AG<;>intro hc<;>try omega)|(apply AZ;omega)|apply zK|apply zN|(apply yX;omega)|apply AE)<;>conv=>whnf))
 ·have Ko:=jg (x/65536/256) (by omega)
  refine W4 (YK _ (by omega)) ?_;(conv=>whnf)
  (repeat' ((first|(apply AZ;omega)|(apply QK;omega))<;>conv=>whnf))
  have h1:m6 (x/65536)+16=m6 x:=UE 16 (x:=x) (by omega);have h2:m6 (x/65536/256)+8=m6 (x/65536):=UE 8 (x:=x/65536) (by omega);refine C6 ?_;rw[<-h1,<-h2];omega
 ·have Ko:=jg (x/65536) (by omega)
  refine W4 (YK _ (by omega)) ?_;(conv=>whnf)
  (repeat' ((first|(apply AZ;omega)|(apply QK;omega))<;>conv=>whnf))
  have h1:m6 (x/65536)+16=m6 x:=UE 16 (x:=x) (by omega);refine C6 ?_;rw[<-h1];omega
 ·have Ko:=jg (x/256) (by omega)
  refine W4 (YK _ (by omega)) ?_;(conv=>whnf)
  (repeat' ((first|(apply AZ;omega)|(apply QK;omega))<;>conv=>whnf))
  have h2:m6 (x/256)+8=m6 x:=UE 8 (x:=x) (by omega);refine C6 ?_;rw[<-h2];omega
 ·have Ko:=jg (x) (by omega)
  refine W4 (YK _ (by omega)) ?_;(conv=>whnf)
  (repeat' ((first|(apply AZ;omega)|(apply QK;omega))<;>conv=>whnf))
  refine C6 ?_;omega
theorem nS (N:c6 L) (x:Nat) (hx:x<4294967296):Ev L 64 [.int .u32 (x:Int)] (.int .i64 ((32-m6 x:Nat):Int)):=by
 have h:=W9 (k:=32) hx;refine Ev.x N.LH rfl rfl ?_;(repeat' ((first|(apply B1;omega)|apply AE|refine AD (Wx N x hx) ?_)<;>conv=>whnf))
 refine C6 ?_;omega
end Go.b8
namespace Go.b8
open F
attribute [local irreducible] AA AF AQ AC CI AW A5 A9 B4 B3 CE DE BX A3 BW CD AB A4 AJ pw BV BN CS CR C1 CY CT BL DD
variable {L:Lib}
set_option maxHeartbeats 4000000
theorem I0 (l:List Nat):A2 (.sl false (l.map AL)):=by
 simp only[A2,true_and];exact B5 l
theorem kI {M:Mem} {v:AV} {ky t z off len s:Nat} {l:List Nat} (hv:v = .row ky t z off len) (h:b7 M ky=some (s,.rw 1 (l.map AL))):QU M v=none:=by
 subst hv;unfold QU;split
 ·rename_i e
  simp only[AV.row.injEq]at e;obtain ⟨rfl,_⟩:=e;rw[h];cases l with
  | nil=>rfl
  | cons a l=>cases l<;>rfl
 ·rfl
theorem F5 (N:a5 L) (l:List Nat) (q:Bool) (hD:A0 l) (hl:l.length<=1099511627776):Ev L 101 [.sl q (l.map AL)] (.sl false ((dg (val l)).map AL)):=by
 refine Ev.x N.G7 rfl rfl ?_;(repeat' ((first|apply AU|apply AE)<;>conv=>whnf))
 refine C5 (λ n=>n) (λ(n:Nat)=>n<=l.length /\ ∀ i,n<=i->i<l.length->l[i]? = some 0) (λ n=>[(3,.int .i64 n)]) (λ_=>[]) l.length ⟨Nat.le_refl _,λ i h1 h2=>by omega⟩ ?_;intro n ⟨p1,p2⟩ ih;rcases n with _|n
 ·have hv:=F2 hD p1 p2 (Or.inl rfl)
  rw[<-hv];clear ih;(repeat' ((first|(apply AG<;>intro hc<;>try omega)|apply AE)<;>conv=>whnf))
  refine OR (k:=0) (λ_=>rfl) (by omega) ?_;(conv=>whnf)
  refine OJ (enc:=AL) (λ_=>rfl) (by rw[List.length_take];omega) (by rw[List.length_take];omega) ?_;(conv=>whnf)
  (repeat' ((refine EE (λ_=>rfl) rfl ?_ ?_;(first|rfl|simp))<;>conv=>whnf))
  exact AX rfl (I0 _)
 ·have e1:((n+1:Nat):Int)-1=n:=by omega
  (repeat' ((first|(apply AG<;>intro hc<;>try omega)|(apply B1;omega)|(refine PP (by assumption) ?_ (λ e he hb => ?_);omega)|apply AE)<;>conv=>whnf))
  ·rw[e1]
   exact BM [] (ih n (by omega) ⟨by omega,λ i h1 h2=>by
    by_cases h:i=n
    ·subst h
     rw[e1,Int.toNat_natCast]at he;rw[he];congr 1;omega
    ·exact p2 i (by omega) h2⟩)
  ·rw[e1,Int.toNat_natCast]at he
   have hv:=F2 hD p1 p2 (Or.inr ⟨e,he,by omega⟩);rw[<-hv];clear ih;refine OR (k:=n+1) (λ_=>rfl) (by omega) ?_;(conv=>whnf)
   refine OJ (enc:=AL) (λ_=>rfl) (by rw[List.length_take];omega) (by rw[List.length_take];omega) ?_;(conv=>whnf)
   (repeat' ((refine EE (λ_=>rfl) rfl ?_ ?_;(first|rfl|simp))<;>conv=>whnf))
   exact AX rfl (I0 _)
theorem cP (N:a5 L) (a b:List Nat) (q1 q2:Bool) (hA:A0 a) (hB:A0 b) (la:a.length<=1099511627776) (lb:b.length<=1099511627776):Ev L 102 [.sl q1 (a.map AL),.sl q2 (b.map AL)] (.int .i64 (C2 (val a) (val b))):=by
 have t1:=λ q=>F5 N a q hA la
 have t2:=λ q=>F5 N b q hB lb
 have l1:=EO hA;have l2:=EO hB;have d1:=DU (val a);have d2:=DU (val b);refine Ev.x N.MJ rfl rfl ?_;by_cases hlen:(dg (val a)).length=(dg (val b)).length
 ·have v1:=BT (val a)
  have v2:=BT (val b);generalize dg (val a)=X at *;generalize dg (val b)=Y at *;(repeat' ((first|(apply AG<;>intro hc<;>try omega)|(apply B1;omega)|apply AU|apply AE|refine AD (t1 _) ?_|refine AD (t2 _) ?_)<;>conv=>whnf))
  refine C5 (λ n=>n) (λ(n:Nat)=>n<=X.length/\X.drop n=Y.drop n) (λ n=>[(5,.int .i64 ((n:Int)-1))]) (λ_=>[]) X.length ⟨Nat.le_refl _,by rw[List.drop_of_length_le (Nat.le_refl _),List.drop_of_length_le (by omega)]⟩ ?_;intro n ⟨p1,p2⟩ ih;rcases n with _|n
  ·(repeat' ((first|(apply AG<;>intro hc<;>try omega)|apply AE)<;>conv=>whnf))
   rw[List.drop_zero,List.drop_zero]at p2;exact C6 (QY (by rw[<-v1,<-v2,p2]))
  ·have e1:((n+1:Nat):Int)-1=n:=by omega
   rw[e1];obtain ⟨x,hx⟩ : ∃ x,X[n]? = some x:=⟨_,zE (by omega)⟩;obtain ⟨y,hy⟩ : ∃ y,Y[n]? = some y:=⟨_,zE (by omega)⟩;rcases Nat.lt_trichotomy x y with h|h|h
   ·have:=Z4 d1 d2 hlen hx hy p2 h
    (repeat' ((first|(apply AG<;>intro hc<;>try omega)|(refine BA (by assumption) ?_ rfl ?_;omega)|apply AE)<;>conv=>whnf))
    exact C6 (HR (by omega))
   ·subst h
    (repeat' ((first|(apply AG<;>intro hc<;>try omega)|(apply B1;omega)|(refine BA (by assumption) ?_ rfl ?_;omega)|apply AE)<;>conv=>whnf))
    refine BS [] (by (conv=>whnf);exact ⟨rfl,rfl,rfl⟩) (ih n (by omega) ⟨by omega,?_⟩);obtain ⟨i1,e1⟩:=zS hx;obtain ⟨i2,e2⟩:=zS hy;rw[List.drop_eq_getElem_cons i1,List.drop_eq_getElem_cons i2,p2,e1,e2]
   ·have:=Z4 d2 d1 hlen.symm hy hx p2.symm h
    (repeat' ((first|(apply AG<;>intro hc<;>try omega)|(refine BA (by assumption) ?_ rfl ?_;omega)|apply AE)<;>conv=>whnf))
    exact C6 (N7 (by omega))
 ·rcases Nat.lt_trichotomy (dg (val a)).length (dg (val b)).length with h1|h1|h1
  ·have:=TW h1
   (repeat' ((first|(apply AG<;>intro hc<;>try omega)|apply AU|apply AE|refine AD (t1 _) ?_|refine AD (t2 _) ?_)<;>conv=>whnf))
   exact C6 (HR (by omega))
  ·exact absurd h1 hlen
  ·have:=TW h1
   (repeat' ((first|(apply AG<;>intro hc<;>try omega)|apply AU|apply AE|refine AD (t1 _) ?_|refine AD (t2 _) ?_)<;>conv=>whnf))
   exact C6 (N7 (by omega))
theorem iR {y:List Nat} (i:Nat):val (y.take (i+1))=val (y.take i)+4294967296^i*y.getD i 0:=by
 rcases Nat.lt_or_ge i y.length with h|h
 ·rw[DX (zE h),GE (zE h)]
 ·rw[<-getD_none h,C3 h,C3 (by omega)];omega
theorem oK (N:a5 L) (a b:List Nat) (q1 q2:Bool) (hA:A0 a) (hB:A0 b) (la:a.length<=549755813888) (lb:b.length<=549755813888):Ev L 103 [.sl q1 (a.map AL),.sl q2 (b.map AL)] (.sl false ((dg (val a+val b)).map AL)):=by
 refine Ev.x N.MH rfl rfl ?_;(repeat' (apply AE<;>conv=>whnf))
 refine FV (λ i _ _=>a.length+b.length-i) (λ(i:Nat) (o:List Nat) (c:Nat)=>(i<=a.length\/i<=b.length)/\o.length=i/\A0 o/\c<=1/\val o+4294967296^i*c=val (a.take i)+val (b.take i)) (λ i o c=>[(7,.int .i64 i),(6,.int .u64 (c:Int)),(5,.row 5 0 1 0 o.length)]) (λ i o c=>[(5,5,.rw 1 (o.map AL))]) 0 [] 0 ⟨by omega,rfl,SR,by omega,by simp [val]⟩ ?_;intro i o c ⟨p1,p2,p3,p4,p5⟩ ih;by_cases hi:i<a.length\/i<b.length
 ·have g1:=iR (y:=a) i
  have g2:=iR (y:=b) i;have k1:=P3 hA i;have k2:=P3 hB i;have g8 : ∀ t,t=c+a.getD i 0+b.getD i 0->val (o++[t%4294967296])+4294967296^(i+1)*(t/4294967296)=val (a.take (i+1))+val (b.take (i+1)):=λ t ht=>by
   have h3:=OW (val o) (4294967296^i) t;rw[NX,p2,g1,g2,Nat.pow_succ];rw[h3,ht,Nat.mul_add,Nat.mul_add];omega
  by_cases h1:i<a.length
  ·obtain ⟨x,hx⟩ : ∃ x,a[i]? = some x:=⟨_,zE h1⟩
   have hxb:=hA.at hx;rw[GE hx]at g8;by_cases h2:i<b.length
   ·obtain ⟨y,hy⟩ : ∃ y,b[i]? = some y:=⟨_,zE h2⟩
    have nr:=hB.at hy;rw[GE hy]at g8;(repeat' ((first|(apply AG<;>intro hc<;>try omega)|(apply FR;omega)|(apply CF;omega)|apply FI|apply AU|(refine BA (by assumption) ?_ rfl ?_;omega)|apply E5|apply AE)<;>conv=>whnf))
    refine FP (enc:=AL) (((c+x+y)%4294967296:Nat)) rfl rfl rfl (by omega) (by omega) ?_;(conv=>whnf)
    (repeat' ((first|(apply AZ;omega)|apply FA)<;>conv=>whnf))
    refine BS [(5,46)] (by (conv=>whnf);exact ⟨rfl,rfl,rfl⟩) (ih (i+1) (o++[(c+x+y)%4294967296]) ((c+x+y)/4294967296) (by omega) ⟨by omega,by simp;omega,p3.append (G2 (by omega)),by omega,?_⟩);exact g8 (c+x+y) (by omega)
   ·rw[<-getD_none (show b.length<=i by omega)]at g8
    (repeat' ((first|(apply AG<;>intro hc<;>try omega)|(apply FR;omega)|(apply CF;omega)|apply FI|apply AU|(refine BA (by assumption) ?_ rfl ?_;omega)|apply E5|apply AE)<;>conv=>whnf))
    refine FP (enc:=AL) (((c+x)%4294967296:Nat)) rfl rfl rfl (by omega) (by omega) ?_;(conv=>whnf)
    (repeat' ((first|(apply AZ;omega)|apply FA)<;>conv=>whnf))
    refine BS [(5,46)] (by (conv=>whnf);exact ⟨rfl,rfl,rfl⟩) (ih (i+1) (o++[(c+x)%4294967296]) ((c+x)/4294967296) (by omega) ⟨by omega,by simp;omega,p3.append (G2 (by omega)),by omega,?_⟩);exact g8 (c+x) (by omega)
  ·obtain ⟨y,hy⟩ : ∃ y,b[i]? = some y:=⟨_,zE (by omega)⟩
   have nr:=hB.at hy;rw[GE hy,<-getD_none (show a.length<=i by omega)]at g8;(repeat' ((first|(apply AG<;>intro hc<;>try omega)|(apply FR;omega)|(apply CF;omega)|apply FI|apply AU|(refine BA (by assumption) ?_ rfl ?_;omega)|apply E5|apply AE)<;>conv=>whnf))
   refine FP (enc:=AL) (((c+y)%4294967296:Nat)) rfl rfl rfl (by omega) (by omega) ?_;(conv=>whnf)
   (repeat' ((first|(apply AZ;omega)|apply FA)<;>conv=>whnf))
   refine BS [(5,46)] (by (conv=>whnf);exact ⟨rfl,rfl,rfl⟩) (ih (i+1) (o++[(c+y)%4294967296]) ((c+y)/4294967296) (by omega) ⟨by omega,by simp;omega,p3.append (G2 (by omega)),by omega,?_⟩);exact g8 (c+y) (by omega)
 ·clear ih
  have hv:val (o++[c])=val a+val b:=by
   rw[C3 (by omega),C3 (by omega)]at p5;rw[NX,p2,p5]
  have hT:=λ q=>F5 N (o++[c]) q (p3.append (G2 (by omega))) (by simp;omega)
  rw[hv]at hT;(repeat' ((first|(apply AG<;>intro hc<;>try omega)|(apply EA;omega)|apply AU|apply E5|apply AE)<;>conv=>whnf))
  refine FP (enc:=AL) c rfl rfl rfl (by omega) (by omega) ?_;(conv=>whnf)
  (repeat' ((first|(refine EE (λ_=>rfl) rfl ?_ ?_;(first|rfl|simp))|refine AD (hT _) ?_)<;>conv=>whnf))
  exact AX rfl (I0 _)
theorem XM {a b:Nat} (h:b<=a):0<=C2 a b:=by unfold C2;split<;>(try split)<;>omega
theorem AgC {V Y X p d e bw have' take w bq:Nat} (h:V+Y=X+p*bw) (h1:take=bw+e) (h2:(have'=d/\bq=0/\take<=d)\/(have'=d+4294967296/\bq=1/\d<take)) (h3:w+take=have'):V+p*w+(Y+p*e)=X+p*d+p*4294967296*bq:=by
 have h4:w+bw+e=d+4294967296*bq:=by omega
 have h5:p*(w+bw+e)=p*(d+4294967296*bq):=by rw[h4]
 rw[Nat.mul_add,Nat.mul_add,Nat.mul_add,<-Nat.mul_assoc]at h5;omega
theorem tT (N:a5 L) (x y:List Nat) (hX:A0 x) (hY:A0 y) (lx:x.length<=549755813888) (ly:y.length<=549755813888) (hle:val y<=val x) :
  AA L [It.lp IJ.l1,It.c7 0,It.code (((BH.ops IJ.bu false).dr [1,5,6,7,21,53,54] []).seq BH.ret)]
  [(7,AV.int IntKind.i64 0),(6,AV.int IntKind.u64 0),(5,AV.row 101021 0 1 0 x.length),(1,AV.sl false (List.map AL y))]
  [(101021,101021,A8.rw 1 (List.map AL x))]
  (PQ IJ (AV.sl false (List.map AL (dg (val x-val y))))):=by
 refine FV (λ i _ _=>x.length-i) (λ(i:Nat) (o:List Nat) (bw:Nat)=>i<=x.length/\o.length=x.length/\A0 o/\bw<=1/\o.drop i=x.drop i/\val (o.take i)+val (y.take i)=val (x.take i)+4294967296^i*bw) (λ i o bw=>[(7,.int .i64 i),(6,.int .u64 (bw:Int))]) (λ i o bw=>[(101021,101021,.rw 1 (o.map AL))]) 0 x 0 ⟨by omega,rfl,hX,by omega,rfl,by simp [val]⟩ ?_;intro i o bw ⟨p1,p2,p3,p4,p5,p6⟩ ih;by_cases hi:i<x.length
 ·obtain ⟨d,hd⟩ : ∃ d,o[i]? = some d:=⟨_,zE (by omega)⟩
  have bb:=p3.at hd;have hxi:x[i]? = some d:=by
   have e1:(o.drop i)[0]? = (x.drop i)[0]? := by rw[p5]
   simpa [hd] using e1.symm
  have g1:=DX hxi;have g2:=iR (y:=y) i;have ge:=P3 hY i;have g8 : ∀ have' take w bq,take=bw+y.getD i 0->((have'=d/\bq=0/\take<=d)\/(have'=d+4294967296/\bq=1/\d<take))->w+take=have'->val ((o.set i w).take (i+1))+val (y.take (i+1))=val (x.take (i+1))+4294967296^(i+1)*bq:=λ have' take w bq a1 a2 a3=>by
   rw[FO (by omega),g1,g2,Nat.pow_succ];exact AgC p6 a1 a2 a3
  have je : ∀ w,(o.set i w).drop (i+1)=x.drop (i+1):=λ w=>by
   rw[List.drop_set_of_lt (by omega)];have e1:(o.drop i).drop 1=(x.drop i).drop 1:=by rw[p5]
   simpa using e1
  by_cases hy:i<y.length
  ·obtain ⟨e,he⟩ : ∃ e,y[i]? = some e:=⟨_,zE hy⟩
   have Ky:=hY.at he;rw[GE he]at g8;by_cases g9:d<bw+e
   ·have h3:=g8 (d+4294967296) (bw+e) (d+4294967296-(bw+e)) 1 (by omega) (Or.inr ⟨rfl,rfl,g9⟩) (by omega)
    (repeat' ((first|(apply AG<;>intro hc<;>try omega)|(apply AY;omega)|(apply FR;omega)|(apply IC;omega;omega)|(apply WR;omega)|(apply CF;omega)|(apply EA;omega)|apply AU|(refine BA (by assumption) ?_ rfl ?_;omega)|refine IX (by assumption) ?_|apply AE)<;>conv=>whnf))
    refine E6 (by omega) ?_;(conv=>whnf)
    (repeat' ((first|(apply AZ;omega)|fail)<;>conv=>whnf))
    exact BS [] (by (conv=>whnf);exact ⟨rfl,rfl,rfl⟩) (ih (i+1) (o.set i (d+4294967296-(bw+e))) 1 (by omega) ⟨by omega,by simpa using p2,p3.set _ (by omega),by omega,je _,h3⟩)
   ·have h3:=g8 d (bw+e) (d-(bw+e)) 0 (by omega) (Or.inl ⟨rfl,rfl,by omega⟩) (by omega)
    (repeat' ((first|(apply AG<;>intro hc<;>try omega)|(apply AY;omega)|(apply FR;omega)|(apply IC;omega;omega)|(apply CF;omega)|(apply EA;omega)|apply AU|(refine BA (by assumption) ?_ rfl ?_;omega)|refine IX (by assumption) ?_|apply AE)<;>conv=>whnf))
    refine E6 (by omega) ?_;(conv=>whnf)
    (repeat' ((first|(apply AZ;omega)|fail)<;>conv=>whnf))
    exact BS [] (by (conv=>whnf);exact ⟨rfl,rfl,rfl⟩) (ih (i+1) (o.set i (d-(bw+e))) 0 (by omega) ⟨by omega,by simpa using p2,p3.set _ (by omega),by omega,je _,h3⟩)
  ·rw[<-getD_none (show y.length<=i by omega)]at g8
   by_cases g9:d<bw
   ·have h3:=g8 (d+4294967296) (bw) (d+4294967296-(bw)) 1 (by omega) (Or.inr ⟨rfl,rfl,g9⟩) (by omega)
    (repeat' ((first|(apply AG<;>intro hc<;>try omega)|(apply AY;omega)|(apply IC;omega;omega)|(apply WR;omega)|(apply CF;omega)|(apply EA;omega)|apply AU|refine IX (by assumption) ?_|apply AE)<;>conv=>whnf))
    refine E6 (by omega) ?_;(conv=>whnf)
    (repeat' ((first|(apply AZ;omega)|fail)<;>conv=>whnf))
    exact BS [] (by (conv=>whnf);exact ⟨rfl,rfl,rfl⟩) (ih (i+1) (o.set i (d+4294967296-(bw))) 1 (by omega) ⟨by omega,by simpa using p2,p3.set _ (by omega),by omega,je _,h3⟩)
   ·have h3:=g8 d (bw) (d-(bw)) 0 (by omega) (Or.inl ⟨rfl,rfl,by omega⟩) (by omega)
    (repeat' ((first|(apply AG<;>intro hc<;>try omega)|(apply AY;omega)|(apply IC;omega;omega)|(apply CF;omega)|(apply EA;omega)|apply AU|refine IX (by assumption) ?_|apply AE)<;>conv=>whnf))
    refine E6 (by omega) ?_;(conv=>whnf)
    (repeat' ((first|(apply AZ;omega)|fail)<;>conv=>whnf))
    exact BS [] (by (conv=>whnf);exact ⟨rfl,rfl,rfl⟩) (ih (i+1) (o.set i (d-(bw))) 0 (by omega) ⟨by omega,by simpa using p2,p3.set _ (by omega),by omega,je _,h3⟩)
 ·obtain rfl:i=x.length:=by omega
  clear ih;rw[C3 (by omega),C3 (Nat.le_refl _)]at p6;have h1:=EY p3;rw[p2]at h1;have h2:val (y.take x.length)<=val y:=by have:=R6 y x.length;omega
  have ql:bw=0:=by
   rcases Nat.eq_zero_or_pos bw with h|h
   ·exact h
   ·have:bw=1:=by omega
    subst this;omega
  subst ql;have hve:val (y.take x.length)=val y:=by
   have h3:=R6 y x.length;rcases Nat.eq_zero_or_pos (val (y.drop x.length)) with h|h
   ·rw[h]at h3;omega
   ·have h4:4294967296^x.length*1<=4294967296^x.length*val (y.drop x.length):=Nat.mul_le_mul_left _ h
    have h5:=EY hX;omega
  have hv:val o=val x-val y:=by omega
  have hT:=λ q=>F5 N o q p3 (by omega)
  rw[<-hv,<-p2];(repeat' ((first|(apply AG<;>intro hc<;>try omega)|(refine EE (λ_=>rfl) rfl ?_ ?_;(first|rfl|simp))|apply AE|refine AD (hT _) ?_)<;>conv=>whnf))
  exact AX rfl (I0 _)
theorem cR (N:a5 L) (a b:List Nat) (q1 q2:Bool) (hA:A0 a) (hB:A0 b) (la:a.length<=549755813888) (lb:b.length<=549755813888):Ev L 104 [.sl q1 (a.map AL),.sl q2 (b.map AL)] (.sl false ((dg (val a-val b)).map AL)):=by
 have k7:=λ q q'=>cP N a b q q' hA hB (by omega) (by omega)
 have t2:=λ q=>F5 N b q hB (by omega)
 refine Ev.x N.IJ rfl rfl ?_;by_cases g9:val a<val b
 ·rw[<-HR (by omega)]at k7
  rw[show val a-val b=0 by omega,EU];(repeat' ((first|(apply AG<;>intro hc<;>try omega)|apply AE|refine AD (k7 _ _) ?_)<;>conv=>whnf))
  exact AX rfl (I0 [])
 ·have lv:=XM (show val b<=val a by omega)
  generalize C2 (val a) (val b)=cm at *;have d2:=DU (val b);have v2:=BT (val b);have l2:=EO hB;rw[<-v2];rw[<-v2]at g9;generalize dg (val b)=y at *;have Hw : ∀ n,a.take n=dg (val a)->val (a.take n)=val a:=λ n h=>by rw[h,BT]
  (repeat' ((first|(apply AG<;>intro hc<;>try omega)|apply AE|refine AD (k7 _ _) ?_|refine AD (t2 _) ?_)<;>conv=>whnf))
  refine FW 1000 N.G7 rfl rfl ?_;(repeat' ((first|apply AU|apply AE)<;>conv=>whnf))
  refine C5 (λ n=>n) (λ(n:Nat)=>n<=a.length /\ ∀ i,n<=i->i<a.length->a[i]? = some 0) (λ n=>[(3,.int .i64 n)]) (λ_=>[]) a.length ⟨Nat.le_refl _,λ i h1 h2=>by omega⟩ ?_;intro n ⟨p1,p2⟩ ih;rcases n with _|n
  ·have hv:=Hw _ (F2 hA p1 p2 (Or.inl rfl))
   clear ih;(repeat' ((first|(apply AG<;>intro hc<;>try omega)|apply AE)<;>conv=>whnf))
   refine OR (k:=0) (λ_=>rfl) (by omega) ?_;(conv=>whnf)
   refine OJ (enc:=AL) (λ_=>rfl) (by rw[List.length_take];omega) (by rw[List.length_take];omega) ?_;(conv=>whnf)
   refine ⟨rfl,_,rfl,?_⟩;(conv=>whnf)
   skip
   rw[<-hv];exact BS [] (by (conv=>whnf);exact ⟨rfl,rfl,rfl⟩) (tT N (a.take 0) y (hA.take _) d2 (by simp) (by omega) (by omega))
  ·have e1:((n+1:Nat):Int)-1=n:=by omega
   (repeat' ((first|(apply AG<;>intro hc<;>try omega)|(apply B1;omega)|(refine PP (by assumption) ?_ (λ e he hb => ?_);omega)|apply AE)<;>conv=>whnf))
   ·rw[e1]
    exact BM [] (ih n (by omega) ⟨by omega,λ i h1 h2=>by
     by_cases h:i=n
     ·subst h
      rw[e1,Int.toNat_natCast]at he;rw[he];congr 1;omega
     ·exact p2 i (by omega) h2⟩)
   ·rw[e1,Int.toNat_natCast]at he
    have hv:=Hw _ (F2 hA p1 p2 (Or.inr ⟨_,he,by omega⟩));clear ih;refine OR (k:=n+1) (λ_=>rfl) (by omega) ?_;(conv=>whnf)
    refine OJ (enc:=AL) (λ_=>rfl) (by rw[List.length_take];omega) (by rw[List.length_take];omega) ?_;(conv=>whnf)
    refine ⟨rfl,_,rfl,?_⟩;(conv=>whnf)
    skip
    rw[<-hv];exact BS [] (by (conv=>whnf);exact ⟨rfl,rfl,rfl⟩) (tT N (a.take (n+1)) y (hA.take _) d2 (by rw[List.length_take];omega) (by omega) (by omega))
theorem AdO (N:a5 L) (x y:List Nat) (q1 q2:Bool) (hA:A0 x) (hB:A0 y) (Qs:x.length+y.length<=549755813888):Ev L 105 [.sl q1 (x.map AL),.sl q2 (y.map AL)] (.sl false ((dg (val x*val y)).map AL)):=by
 refine Ev.x N.ML rfl rfl ?_;(repeat' ((first|(apply AZ;omega)|apply AU|apply AE)<;>conv=>whnf))
 refine EJ (enc:=AL) 0 (x.length+y.length+1) rfl (by omega) (by omega) ?_;(conv=>whnf)
 skip
 refine JS (λ i _=>x.length-i) (λ(i:Nat) (o:List Nat)=>i<=x.length/\o.length=x.length+y.length+1/\A0 o/\val o=val (x.take i)*val y /\ ∀ k,i+y.length<=k->k<o.length->o[k]? = some 0) (λ i o=>[(6,.int .i64 i)]) (λ i o=>[(15,15,.rw 1 (o.map AL))]) 0 (List.replicate (x.length+y.length+1) 0) ⟨by omega,by simp,IG _,by simp [val,Z8],λ k h1 h2=>by simp at h2;simp [h2]⟩ ?_;intro i O ⟨p1,p2,p3,p4,p5⟩ ih;by_cases hi:i<x.length
 ·obtain ⟨d,hd⟩ : ∃ d,x[i]? = some d:=⟨_,zE hi⟩
  have bb:=hA.at hd;(repeat' ((first|(apply AG<;>intro hc<;>try omega)|apply AU|apply AE)<;>conv=>whnf))
  refine FV (λ j _ _=>y.length-j) (λ(j:Nat) (o:List Nat) (c:Nat)=>j<=y.length/\o.length=x.length+y.length+1/\A0 o/\c<4294967296/\val o+4294967296^(i+j)*c=val O+4294967296^i*(d*val (y.take j)) /\ ∀ k,i+j<=k->o[k]? = O[k]?) (λ j o c=>[(7,.int .u64 (c:Int)),(8,.int .i64 j)]) (λ j o c=>[(15,15,.rw 1 (o.map AL))]) 0 O 0 ⟨by omega,p2,p3,by omega,by simp [val],λ_ _=>rfl⟩ ?_;intro j o c ⟨r1,r2,r3,r4,r5,r6⟩ jh;have e1:((i:Int)+j).toNat=i+j:=by omega
  by_cases hj:j<y.length
  ·obtain ⟨w,hw⟩ : ∃ w,y[j]? = some w:=⟨_,zE hj⟩
   have gx:=hB.at hw;have hm:=TC bb gx;(repeat' ((first|(apply AG<;>intro hc<;>try omega)|(apply AY;omega)|(apply AZ;omega)|(apply FR;omega)|(apply OM;omega)|(apply CF;omega)|apply FI|apply AU|(refine BA (by assumption) ?_ rfl ?_;omega)|(refine jL (by assumption) ?_ (λ v hv hb => ?_);omega)|apply AE)<;>conv=>whnf))
   refine W3 (i+j) (by omega) (by omega) ?_;(conv=>whnf)
   (repeat' ((first|(apply AZ;omega)|apply FA)<;>conv=>whnf))
   refine BS [] (by (conv=>whnf);exact ⟨rfl,rfl,rfl⟩) (jh (j+1) _ _ (by omega) ⟨by omega,by simpa using r2,r3.set _ (by omega),by omega,?_,?_⟩)
   ·have h1:=Z5 (v:=(c+(d*w+v))%4294967296) hv
    have h2:=OW 0 (4294967296^(i+j)) (c+(d*w+v));rw[DX hw,show i+(j+1)=i+j+1 by omega,Nat.pow_succ (4294967296) (i+j)];have h3:4294967296^i*(d*(val (y.take j)+4294967296^j*w))=4294967296^i*(d*val (y.take j))+4294967296^(i+j)*(d*w):=by rw[Nat.pow_add];grind
    rw[h3];generalize 4294967296^(i+j)=P at *;rw[Nat.mul_add P c,Nat.mul_add P]at h2;omega
   ·intro k hk
    rw[List.getElem?_set_ne (by omega)];exact r6 k (by omega)
  ·obtain rfl:j=y.length:=by omega
   clear jh;have hz:=r6 (i+y.length) (by omega);rw[p5 (i+y.length) (by omega) (by omega)]at hz;(repeat' ((first|(apply AG<;>intro hc<;>try omega)|(apply AY;omega)|(apply AZ;omega)|(apply EA;omega)|apply AU|apply AE)<;>conv=>whnf))
   refine W3 (i+y.length) (by omega) (by omega) ?_;(conv=>whnf)
   (repeat' ((first|(apply AZ;omega)|fail)<;>conv=>whnf))
   refine BS [] (by (conv=>whnf);exact ⟨rfl,rfl,rfl⟩) (ih (i+1) _ (by omega) ⟨by omega,by simpa using r2,r3.set _ (by omega),?_,?_⟩)
   ·have h1:=Z5 (v:=c) hz
    rw[Nat.mul_zero,Nat.add_zero]at h1;rw[h1,r5,p4,C3 (Nat.le_refl _),DX hd,Nat.add_mul,Nat.mul_assoc]
   ·intro k h1 h2
    rw[List.length_set]at h2;rw[List.getElem?_set_ne (by omega),r6 k (by omega)];exact p5 k (by omega) (by omega)
 ·obtain rfl:i=x.length:=by omega
  clear ih;rw[C3 (Nat.le_refl _)]at p4;have hT:=λ q=>F5 N O q p3 (by omega)
  rw[p4]at hT;rw[<-p2];(repeat' ((first|(apply AG<;>intro hc<;>try omega)|apply AU|(refine EE (λ_=>rfl) rfl ?_ ?_;(first|rfl|simp))|apply AE|refine AD (hT _) ?_)<;>conv=>whnf))
  exact AX rfl (I0 _)
theorem Vb {d:Nat} (h0:d≠0) (hd:d<4294967296):dg d=[d]:=by
 rw[IE h0,Nat.div_eq_of_lt hd,EU,Nat.mod_eq_of_lt hd]
theorem Zy (N:a5 L) (d:Nat) (q:Bool) (h0:d≠0) (hd:d<4294967296):Ev L 106 [.sl q ([d].map AL)] (.int .i64 (m6 d:Int)):=by
 have hT:=λ q=>F5 N [d] q (G2 hd) (by simp)
 rw[show val [d]=d by simp [val],Vb h0 hd]at hT;have rz:[d].length=1:=rfl;have Df:[d][(([d].length:Int)-1).toNat]? = some d:=rfl;have hb:=W9 (k:=32) hd;refine Ev.x N.MI rfl rfl ?_;(repeat' ((first|(apply AG<;>intro hc<;>try omega)|(apply B1;omega)|(apply N0;omega)|apply AU|(refine BA (by assumption) ?_ rfl ?_;omega)|apply AE|refine AD (hT _) ?_)<;>conv=>whnf))
 refine JS (λ_ x=>x) (λ(n x:Nat)=>n+m6 x=m6 d/\x<=d) (λ n x=>[(3,.int .i64 n),(4,.int .u32 (x:Int))]) (λ_ _=>[]) 0 d ⟨by omega,Nat.le_refl _⟩ ?_;intro n x ⟨p1,p2⟩ ih;by_cases hx:x=0
 ·subst hx
  have:m6 0=0:=by unfold m6;simp
  (repeat' ((first|(apply AG<;>intro hc<;>try omega)|apply AE)<;>conv=>whnf))
  exact C6 (by omega)
 ·have h1:m6 (x/2)+1=m6 x:=by
   by_cases h1:x=1
   ·subst h1;decide
   ·exact UE 1 (x:=x) (by omega)
  (repeat' ((first|(apply AG<;>intro hc<;>try omega)|(apply AZ;omega)|apply zJ|apply AE)<;>conv=>whnf))
  exact BM [] (ih (n+1) (x/2) (by omega) ⟨by omega,by omega⟩)
theorem wU {V P X lo s d p t:Nat} (h:V+P*p*lo=P*(X*2^s)) (ht:t=lo+d*2^s):V+P*p*(t%4294967296)+P*p*4294967296*(t/4294967296)=P*((X+p*d)*2^s):=by
 have h1:=OW V (P*p) t;rw[h1,ht];have:P*((X+p*d)*2^s)=P*(X*2^s)+P*p*(d*2^s):=by grind
 rw[this,<-h,Nat.mul_add];omega
theorem oM (N:a5 L) (l:List Nat) (q:Bool) (n:Nat) (hD:A0 l) (hl:l.length<=549755813888) (hn:n<=65536):Ev L 107 [.sl q (l.map AL),.int .i64 (n:Int)] (.sl false ((dg (val l*2^n)).map AL)):=by
 have hT:=λ q=>F5 N l q hD (by omega)
 have d1:=DU (val l);have v1:=BT (val l);have l1:=EO hD;have hz:=HS (val l);refine Ev.x N.H2 rfl rfl ?_;by_cases h0:val l=0
 ·rw[h0,Nat.zero_mul,EU]
  (repeat' ((first|(apply AG<;>intro hc<;>try omega)|apply AU|apply AE|refine AD (hT _) ?_)<;>conv=>whnf))
  exact AX rfl (I0 [])
 rw[<-v1];generalize dg (val l)=x at *;have cg:n%32<32:=Nat.mod_lt _ (by omega);have e1:(n:Int)/32=((n/32:Nat):Int):=by omega
 have e2:(n:Int)%32=((n%32:Nat):Int):=by omega
 (repeat' ((first|(apply AG<;>intro hc<;>try omega)|(refine QR ?_ ?_ (λ_ => ?_) (λ_ _ => ?_);omega;omega;all_goals try omega)|apply AU|apply AE|refine AD (hT _) ?_)<;>conv=>whnf))
 rw[e1];refine EJ (enc:=AL) 0 (n/32) rfl rfl (by omega) ?_;(conv=>whnf)
 skip
 refine FV (λ i _ _=>x.length-i) (λ(i:Nat) (o:List Nat) (c:Nat)=>i<=x.length/\o.length=n/32+i/\A0 o/\c<2^(n%32)/\val o+4294967296^(n/32)*4294967296^i*c=4294967296^(n/32)*(val (x.take i)*2^(n%32))) (λ i o c=>[(10,.int .i64 i),(9,.int .u64 (c:Int)),(8,.row 107069 0 1 0 (n/32+i))]) (λ i o c=>[(107069,107069,.rw 1 (o.map AL))]) 0 (List.replicate (n/32) 0) 0 ⟨by omega,by simp,IG _,Nat.two_pow_pos _,by simp [val,Z8]⟩ ?_;intro i o c ⟨p1,p2,p3,p4,p5⟩ ih;have ti:=VO (s:=n%32) (by omega);by_cases hi:i<x.length
 ·obtain ⟨d,hd⟩ : ∃ d,x[i]? = some d:=⟨_,zE hi⟩
  have bb:=d1.at hd;obtain ⟨f1,f2,f3,f4⟩:=RV (s:=n%32) bb (by omega);have hr:=YU (show n%32<=64 by omega) f4;(repeat' ((first|(apply AG<;>intro hc<;>try omega)|(refine T7 ?_ (λ_ _ _ => ?_) (λ_ _ _ _ => ?_);omega;all_goals try omega)|(apply CF;omega)|apply AU|(refine BA (by assumption) ?_ rfl ?_;omega)|apply AE)<;>conv=>whnf))
  rw[e2];refine OP (by omega) f4 ?_;(conv=>whnf)
  skip
  refine WS (n%32) (Nat.mul_mod_left _ _) p4 (by omega) ?_;(conv=>whnf)
  have g8:=wU (d:=d) p5 rfl;have jc:(c+d*2^(n%32))/4294967296<2^(n%32):=by
   rw[Nat.div_lt_iff_lt_mul (by omega)];have:=zR (2^(n%32)) (show d<=4294967295 by omega)
   omega
  generalize c+d*2^(n%32)=t at *;(repeat' ((first|apply FI|apply E5)<;>conv=>whnf))
  refine FP (enc:=AL) (t%4294967296) rfl p2.symm rfl (by omega) (by omega) ?_;(conv=>whnf)
  (repeat' ((first|(apply AZ;omega)|apply FA)<;>conv=>whnf))
  rw[show (o++[t%4294967296]).length=n/32+(i+1) by simp [p2];omega];refine BS [(107069,107091)] (by (conv=>whnf);exact ⟨rfl,rfl,rfl⟩) (ih (i+1) (o++[t%4294967296]) (t/4294967296) (by omega) ⟨by omega,by simp;omega,p3.append (G2 (by omega)),jc,?_⟩);rw[NX,p2,DX hd,Nat.pow_add,Nat.pow_succ,<-Nat.mul_assoc];exact g8
 ·obtain rfl:i=x.length:=by omega
  clear ih;have jd:c<4294967296:=by omega
  have hOD:A0 (o++[c]):=p3.append (G2 jd);have yx:val (o++[c])=val x*2^n:=by
   rw[NX,p2,Nat.pow_add,p5,C3 (Nat.le_refl _)];have e3:2^n=4294967296^(n/32)*2^(n%32):=by
    rw[show 4294967296=2^32 from rfl,<-Nat.pow_mul,<-Nat.pow_add];congr 1;omega
   rw[e3];grind
  have Eu:(o++[c]).length=n/32+x.length+1:=by simp [p2]
  (repeat' ((first|(apply AG<;>intro hc<;>try omega)|(apply EA;omega)|apply AU|apply E5|apply AE)<;>conv=>whnf))
  refine FP (enc:=AL) c rfl p2.symm rfl (by omega) (by omega) ?_;(conv=>whnf)
  rw[<-yx,Eu];generalize o++[c]=O at *;rw[<-Eu];clear p3 p4 p5 yx;refine FW 1000 N.G7 rfl rfl ?_;(repeat' (apply AE<;>conv=>whnf))
  refine C5 (λ n=>n) (λ(n:Nat)=>n<=(O).length /\ ∀ i,n<=i->i<(O).length->(O)[i]? = some 0) (λ n=>[(3,.int .i64 n)]) (λ_=>[]) (O).length ⟨Nat.le_refl _,λ i h1 h2=>by omega⟩ ?_;intro n ⟨p1,p2⟩ ih;rcases n with _|n
  ·(repeat' ((first|(apply AG<;>intro hc<;>try omega)|apply AE)<;>conv=>whnf))
   refine GY 0 (by omega) (by omega) ?_;(conv=>whnf)
   have az:=F2 (l:=O) (by assumption) p1 p2 (Or.inl rfl);have m5:(List.take 0 O).length<=(O).length:=by rw[List.length_take];omega
   clear ih p2;refine UA (enc:=AL) (by omega) ?_;(conv=>whnf)
   rw[List.drop_zero,Nat.sub_zero];generalize Kb:List.take 0 O=T0 at *;refine OJ (enc:=AL) (λ_=>rfl) (by omega) (by omega) ?_;(conv=>whnf)
   refine ⟨rfl,_,rfl,?_⟩;(conv=>whnf)
   (refine EE (enc:=AL) (λ_=>rfl) rfl rfl ?_;(conv=>whnf);exact AX (by rw[<-az]) (I0 _))
  ·have e1:((n+1:Nat):Int)-1=n:=by omega
   (repeat' ((first|(apply AG<;>intro hc<;>try omega)|(apply AY;omega)|(apply B1;omega)|(refine QP (by assumption) ?_ (λ v hv hb => ?_);omega)|apply AE)<;>conv=>whnf))
   ·rw[e1]
    exact BM [] (ih n (by omega) ⟨by omega,λ i h1 h2=>by
     by_cases h:i=n
     ·subst h
      rw[e1,Int.toNat_natCast]at hv;rw[hv];congr 1;omega
     ·exact p2 i (by omega) h2⟩)
   ·refine GY (n+1) (by omega) (by omega) ?_
    (conv=>whnf)
    rw[e1,Int.toNat_natCast]at hv;have az:=F2 (l:=O) (by assumption) p1 p2 (Or.inr ⟨_,hv,by omega⟩);have m5:(List.take (n+1) O).length<=(O).length:=by rw[List.length_take];omega
    clear ih p2 hv;(rw[kI (l:=O)];rotate_left;exact rfl;exact rfl);(conv=>whnf)
    refine UA (enc:=AL) (by omega) ?_;(conv=>whnf)
    rw[List.drop_zero,Nat.sub_zero];generalize Kb:List.take (n+1) O=T0 at *;refine OJ (enc:=AL) (λ_=>rfl) (by omega) (by omega) ?_;(conv=>whnf)
    refine ⟨rfl,_,rfl,?_⟩;(conv=>whnf)
    (refine EE (enc:=AL) (λ_=>rfl) rfl rfl ?_;(conv=>whnf);exact AX (by rw[<-az]) (I0 _))
theorem AhE {l:List Nat} (hD:A0 l) (k:Nat) (hk:k<=l.length):val (l.drop k)=val l/4294967296^k:=by
 have h1:=JR l k hk;have h2:=EY (hD.take k);rw[List.length_take,Nat.min_eq_left hk]at h2;rw[h1,Nat.add_mul_div_left _ _ (Nat.pow_pos (by omega)),Nat.div_eq_of_lt h2,Nat.zero_add]
theorem Af9 (n:Nat):2^n=4294967296^(n/32)*2^(n%32):=by
 rw[show 4294967296=2^32 from rfl,<-Nat.pow_mul,<-Nat.pow_add];congr 1;omega
theorem Xh {d e V r:Nat} (hd:d<4294967296) (hr:r<32):(d+e*4294967296)/2^r%4294967296+4294967296*((e+4294967296*V)/2^r)=(d+4294967296*(e+4294967296*V))/2^r:=by
 obtain ⟨f1,f2,f3⟩:=rH (V:=e) hd (show r<=32 by omega);rw[eH (d:=d) (V:=e+4294967296*V) (by omega),rI (d:=e) (V:=V) (by omega)];have h1:=eH (d:=d) (V:=e) (s:=r) (by omega);rw[show d+e*4294967296=d+4294967296*e by omega,h1];clear h1;generalize d/2^r=A at *;generalize e%2^r*2^(32-r)=Q at *;generalize e/2^r=Z at *;generalize 2^(32-r)=P at *;omega
theorem AdP (N:a5 L) (l:List Nat) (q:Bool) (n:Nat) (hD:A0 l) (hl:l.length<=549755813888) (hn:1<=n/\n<=65536):Ev L 107 [.sl q (l.map AL),.int .i64 (-(n:Int))] (.sl false ((dg (val l/2^n)).map AL)):=by
 have hT:=λ q=>F5 N l q hD (by omega)
 have d1:=DU (val l);have v1:=BT (val l);have l1:=EO hD;have hz:=HS (val l);refine Ev.x N.H2 rfl rfl ?_;by_cases h0:val l=0
 ·rw[h0,Nat.zero_div,EU]
  (repeat' ((first|(apply AG<;>intro hc<;>try omega)|apply AU|apply AE|refine AD (hT _) ?_)<;>conv=>whnf))
  exact AX rfl (I0 [])
 rw[<-v1];generalize dg (val l)=x at *;have Lx:n%32<32:=Nat.mod_lt _ (by omega);have e1:(- -(n:Int))/32=((n/32:Nat):Int):=by omega
 have e2:(- -(n:Int))%32=((n%32:Nat):Int):=by omega
 by_cases Fh:32*x.length<n
 ·have g9:val x/2^n=0:=by
   refine Nat.div_eq_of_lt (Nat.lt_of_lt_of_le (EY d1) ?_);rw[show 4294967296=2^32 from rfl,<-Nat.pow_mul];exact Nat.pow_le_pow_right (by omega) (by omega)
  rw[g9,EU];(repeat' ((first|(apply AG<;>intro hc<;>try omega)|(apply N0;omega)|apply AU|apply AE|refine AD (hT _) ?_)<;>conv=>whnf))
  exact AX rfl (I0 [])
 have hk:n/32<=x.length:=by omega
 have hvd:=AhE d1 _ hk;(repeat' ((first|(apply AG<;>intro hc<;>try omega)|(apply N0;omega)|(refine QR ?_ ?_ (λ_ => ?_) (λ_ _ => ?_);omega;omega;all_goals try omega)|(apply CI.neg;omega)|apply AU|apply AE|refine AD (hT _) ?_)<;>conv=>whnf))
 rw[e1];refine JS (λ i _=>x.length-i) (λ(i:Nat) (o:List Nat)=>n/32<=i/\i<=x.length/\o.length=i-n/32/\A0 o/\val o+4294967296^(i-n/32)*(val (x.drop i)/2^(n%32))=val (x.drop (n/32))/2^(n%32)) (λ i o=>[(6,.int .i64 i),(5,.row 107005 0 1 0 o.length)]) (λ i o=>[(107005,107005,.rw 1 (o.map AL))]) (n/32) [] ⟨Nat.le_refl _,hk,by simp,SR,by simp [val]⟩ ?_;intro i o ⟨p0,p1,p2,p3,p5⟩ ih;by_cases hi:i<x.length
 ·obtain ⟨d,hd⟩ : ∃ d,x[i]? = some d:=⟨_,zE hi⟩
  have bb:=d1.at hd;have g1:=GX hd;have g2:=R5 x (i+1);have g3:=Xh (e:=x.getD (i+1) 0) (V:=val (x.drop (i+1+1))) bb Lx;rw[<-g2,<-g1]at g3;have key : ∀ t,t=d+x.getD (i+1) 0*4294967296->val (o++[t/2^(n%32)%4294967296])+4294967296^(i+1-n/32)*(val (x.drop (i+1))/2^(n%32))=val (x.drop (n/32))/2^(n%32):=λ t ht=>by
   rw[NX,p2,show i+1-n/32=(i-n/32)+1 by omega,Nat.pow_succ,ht,Nat.add_assoc,Nat.mul_assoc,<-Nat.mul_add,g3];exact p5
  by_cases hy:i+1<x.length
  ·obtain ⟨e,he⟩ : ∃ e,x[i+1]? = some e:=⟨_,zE hy⟩
   have Ky:=d1.at he;have iv:x[((i:Int)+1).toNat]? = some e:=by rw[show ((i:Int)+1).toNat=i+1 by omega];exact he
   rw[GE he]at key;(repeat' ((first|(apply AG<;>intro hc<;>try omega)|(apply AZ;omega)|(apply N1;omega)|(apply CF;omega)|apply AU|(refine BA (by assumption) ?_ rfl ?_;omega)|apply AE)<;>conv=>whnf))
   refine WS 32 (Nat.mul_mod_left _ _) (by omega) (by omega) ?_;(conv=>whnf)
   (repeat' ((first|(refine T7 ?_ (λ_ _ _ => ?_) (λ_ _ _ _ => ?_);omega;all_goals try omega)|(apply CF;omega))<;>conv=>whnf))
   rw[e2];refine OO (n:=n%32) (by show n%32<=64;omega) ?_;(conv=>whnf)
   (repeat' ((first|apply FI|apply E5)<;>conv=>whnf))
   refine FP (enc:=AL) ((d+e*4294967296)/2^(n%32)%4294967296) rfl rfl rfl (by omega) (by omega) ?_;(conv=>whnf)
   (repeat' ((first|(apply AZ;omega)|fail)<;>conv=>whnf))
   exact BM [(107005,107064)] (ih (i+1) (o++[(d+e*4294967296)/2^(n%32)%4294967296]) (by omega) ⟨by omega,by omega,by simp;omega,p3.append (G2 (by omega)),key (d+e*4294967296) rfl⟩)
  ·rw[<-getD_none (show x.length<=i+1 by omega),Nat.zero_mul]at key
   (repeat' ((first|(apply AG<;>intro hc<;>try omega)|(apply AZ;omega)|(refine T7 ?_ (λ_ _ _ => ?_) (λ_ _ _ _ => ?_);omega;all_goals try omega)|(apply CF;omega)|apply AU|(refine BA (by assumption) ?_ rfl ?_;omega)|apply AE)<;>conv=>whnf))
   rw[e2];refine OO (n:=n%32) (by show n%32<=64;omega) ?_;(conv=>whnf)
   (repeat' ((first|apply FI|apply E5)<;>conv=>whnf))
   refine FP (enc:=AL) (d/2^(n%32)%4294967296) rfl rfl rfl (by omega) (by omega) ?_;(conv=>whnf)
   (repeat' ((first|(apply AZ;omega)|fail)<;>conv=>whnf))
   exact BM [(107005,107064)] (ih (i+1) (o++[d/2^(n%32)%4294967296]) (by omega) ⟨by omega,by omega,by simp;omega,p3.append (G2 (by omega)),key d rfl⟩)
 ·obtain rfl:i=x.length:=by omega
  clear ih;rw[List.drop_of_length_le (Nat.le_refl _),IB,Nat.zero_div,Nat.mul_zero,Nat.add_zero,hvd,Nat.div_div_eq_div_mul,<-Af9]at p5;have Ho:=λ q=>F5 N o q p3 (by omega)
  rw[p5]at Ho;(repeat' ((first|(apply AG<;>intro hc<;>try omega)|apply AU|(refine EE (λ_=>rfl) rfl ?_ ?_;(first|rfl|simp))|apply AE|refine AD (Ho _) ?_)<;>conv=>whnf))
  exact AX rfl (I0 _)
end Go.b8

namespace Go.b8
open F
attribute [local irreducible] AA AF AQ AC CI AW A5 A9 B4 B3 CE DE BX A3 BW CD AB A4 AJ pw BV BN CS CR C1 CY CT BL DD
set_option maxHeartbeats 4000000
variable {L:Lib}
theorem Ag5 {V R y d t Q:Nat} (h:Q*y+R=V) (ht:t=R*4294967296+d):(t/y+4294967296*Q)*y+t%y=d+4294967296*V:=by
 have:=Nat.div_add_mod t y
 rw[<-h,Nat.add_mul];have e:t/y*y=y*(t/y):=Nat.mul_comm _ _;grind
theorem AdQ (N:a5 L) (x:List Nat) (Y:Nat) (q:Bool) (d1:A0 x) (hx:x.length<=549755813888) (h0:Y≠0) (hY:Y<4294967296):Ev L 108 [.sl q (x.map AL),.int .u32 (Y:Int)] (.e6 [.sl false ((dg (val x/Y)).map AL),.int .u32 ((val x%Y:Nat):Int)]):=by
 refine Ev.x N.MO rfl rfl ?_;(repeat' ((first|apply AU|apply AE)<;>conv=>whnf))
 refine EJ (enc:=AL) 0 x.length rfl (by omega) (by omega) ?_;(conv=>whnf)
 (repeat' ((first|(apply B1;omega)|apply AU)<;>conv=>whnf))
 refine FV (λ n _ _=>n) (λ(n:Nat) (o:List Nat) (r:Nat)=>n<=x.length/\o.length=x.length/\A0 o/\r<Y/\val (o.drop n)*Y+r=val (x.drop n)) (λ n o r=>[(7,.int .u64 (r:Int)),(8,.int .i64 ((n:Int)-1))]) (λ n o r=>[(11,11,.rw 1 (o.map AL))]) x.length (List.replicate x.length 0) 0 ⟨by omega,by simp,IG _,by omega,by rw[List.drop_of_length_le (Nat.le_refl _),List.drop_of_length_le (by simp)];simp [val]⟩ ?_;intro n o r ⟨p1,p2,p3,p4,p5⟩ ih;rcases n with _|n
 ·rw[List.drop_zero,List.drop_zero]at p5
  have hq:val x/Y=val o/\val x%Y=r:=by
   rw[<-p5];have e1:(val o*Y+r)/Y=val o:=by
    rw[Nat.mul_comm,Nat.mul_add_div (by omega),Nat.div_eq_of_lt p4,Nat.add_zero]
   have e2:(val o*Y+r)%Y=r:=by
    rw[Nat.mul_comm,Nat.mul_add_mod,Nat.mod_eq_of_lt p4]
   exact ⟨e1,e2⟩
  have hT:=λ q=>F5 N o q p3 (by omega)
  rw[hq.1,hq.2,<-p2];clear ih hq p5;(repeat' ((first|(apply AG<;>intro hc<;>try omega)|(apply EA;omega)|(refine EE (λ_=>rfl) rfl ?_ ?_;(first|rfl|simp))|apply AE|refine AD (hT _) ?_)<;>conv=>whnf))
  refine AX rfl ?_;simp only[A2,B8,and_true,true_and];exact B5 _
 ·have e1:((n+1:Nat):Int)-1=n:=by omega
  rw[e1];obtain ⟨d,hd⟩ : ∃ d,x[n]? = some d:=⟨_,zE (by omega)⟩;have bb:=d1.at hd;have hR:r*4294967296+d<Y*4294967296:=by omega
  have jl:(r*4294967296+d)/Y<4294967296:=(Nat.div_lt_iff_lt_mul (by omega)).2 (by omega);(repeat' ((first|(apply AG<;>intro hc<;>try omega)|(apply AY;omega)|(apply N1;omega)|(apply ON;omega)|(apply WT;omega;omega)|(apply CF;omega)|(apply EA;omega)|(refine BA (by assumption) ?_ rfl ?_;omega)|apply AE)<;>conv=>whnf))
  obtain ⟨t,ht⟩ : ∃ t,t=r*4294967296+d:=⟨_,rfl⟩;rw[<-ht]at hR jl ⊢;have hm:t%Y<Y:=Nat.mod_lt _ (by omega);have g8:=Ag5 p5 ht;rw[<-GX hd]at g8;clear ht;skip
  refine E6 (by omega) ?_;(conv=>whnf)
  (repeat' ((first|(apply B1;omega)|(apply T6;omega)|(apply CF;omega))<;>conv=>whnf))
  generalize t/Y=tq at *;generalize t%Y=tr at *;refine BS [] (by (conv=>whnf);exact ⟨rfl,rfl,rfl⟩) (ih n _ _ (by omega) ⟨by omega,by simpa using p2,p3.set _ (by omega),hm,?_⟩);rw[GX (l:=o.set n tq) (d:=tq) (by rw[List.getElem?_set_self (by omega)]),List.drop_set_of_lt (by omega)];exact g8
theorem XJ (a b:List Nat) (e:Int):A2 (.e6 [.sl false (a.map AL),.sl false (b.map AL),.int .i64 e]):=by
 simp only[A2,B8,and_true,true_and];exact ⟨B5 a,B5 b⟩
abbrev Vj:List It:=[It.lp DP.l1,It.c7 0,
   It.code
    (((BH.ops DP.y7 false).dr [0,75,79,80] []).seq
     (((BH.ops DP.ak false).dr [81,82,83,84,85] []).seq
      ((((BH.ops DP.br false).dr [86,87,88,89,90] []).seq
         (BH.block 2 DP.l2.loop)).seq
       (((BH.ops DP.Np true).dr [9,10,11,12,13,14,92,277,278,279,280,281,282,283,284]
          []).seq
        BH.ret))))]
abbrev XX:List It:=[It.lp DP.l2,It.c7 2,It.code
       (((BH.ops DP.Np true).dr [9,10,11,12,13,14,92,277,278,279,280,281,282,283,284]
          []).seq
        BH.ret)]
abbrev XY (v:List Nat) (s ul m:Nat) (j:Int):Tm:=[(14,.int .i64 j),(13,.row 85 0 1 0 m),(12,.int .i64 v.length),(11,.sl false (v.map AL)),(10,.row 69 0 1 0 ul),(9,.int .i64 (s:Int))]
abbrev Vh:BH:=(((BH.ops DP.Qv false).dr [18,19,20,166,205,206,207] []).seq
                (((BH.ops DP.Qw false).dr [208,209,210,211,212,213,214] []).seq
                 ((BH.ops DP.Qx false).seq
                  ((((BH.ops DP.Qy false).dr [215,216] []).seq
                     (BH.cond 217
                      (((BH.ops DP.Qz false).dr [18,217,218,219] []).seq
                       (BH.ops DP.Ra false))
                      BH.skip)).seq
                   (((BH.ops DP.Rb false).dr
                      [23,24,217,220,221,222,223,224,225,226,227,228] []).seq
                    ((((BH.ops DP.Rc false).dr [18,229] []).seq
                       (BH.cond 230
                        (((BH.ops DP.Re false).dr [230,231,232] []).seq
                         ((BH.ops DP.Rf false).seq
                          (((BH.ops DP.Rg false).seq
                             (BH.block 8 DP.l5.loop)).seq
                           ((BH.ops DP.Rh false).dr
                            [25,26,235,262,263,264,265,266,267,268,269,270,271]
                            []))))
                        BH.skip)).seq
                     ((BH.ops DP.Ri false).dr [16,230,272,273,274,275,276]
                      [])))))))
abbrev Vk:List It:=It.lp DP.l4::It.c7 6::It.code Vh::It.c7 3::It.code ((BH.ops DP.bu false).dr [93,94] [])::XX
section
variable {A W C w y:List Nat} {j m s ul q:Nat} {Q:Tm->Mem->Prop}
theorem R8 {e i n:Nat} (hi:i=A.length+n) (he:W[n]? = some e):(A++W++C)[i]? = some e:=by
 rw[xD hi (zS he).1];exact he
theorem bU (hA:A.length=j) (hW:W.length=y.length+1) (D2:A0 W) (eo:A0 y) (gb:2<=y.length) (vn:y.length<=549755813888) (v7:0<val y) (db:j<=1099511627776)
  (np:ul=j+(y.length+1)+C.length) (Iq:w.length=m) (zq:j<m)
  (r1:q<4294967296) (r2:val W/val y<=q) (r3:q<=val W/val y+1)
  (hk : ∀ (W':List Nat) (q':Nat),W'.length=y.length+1->A0 W'->val W'=val W%val y->q'=val W/val y->AA L XX (XY y s ul m ((j:Int)-1)) [(69,101021,.rw 1 ((A++W'++C).map AL)),(85,85,.rw 1 ((w.set j q').map AL))] Q) :
  AA L Vk ([(20,.int .i64 0),(19,.int .u64 0),(18,.int .u64 0),(16,.int .u64 (q:Int))]++XY y s ul m (j:Int)) [(69,101021,.rw 1 ((A++W++C).map AL)),(85,85,.rw 1 (w.map AL))] Q:=by
 refine WF (λ i _ _ _=>y.length-i) (λ(i:Nat) (Z:List Nat) (c b:Nat)=>i<=y.length/\Z.length=y.length+1/\A0 Z/\c<4294967296/\b<=1/\Z.drop i=W.drop i/\val (Z.take i)+q*val (y.take i)=val (W.take i)+4294967296^i*(c+b)) (λ i Z c b=>[(20,.int .i64 i),(18,.int .u64 (b:Int)),(19,.int .u64 (c:Int))]) (λ i Z c b=>[(69,101021,.rw 1 ((A++Z++C).map AL))]) [] [] 0 W 0 0 (by (conv=>whnf);exact ⟨rfl,rfl,rfl⟩) ⟨by omega,hW,D2,by omega,by omega,rfl,by simp [val]⟩ ?_;intro i Z c b ⟨p1,p2,p3,p4,p5,p6,p7⟩ ih;by_cases hi:i<y.length
 ·obtain ⟨d,hd⟩ : ∃ d,y[i]? = some d:=⟨_,zE hi⟩
  obtain ⟨u,hu⟩ : ∃ u,Z[i]? = some u:=⟨_,zE (by omega)⟩;have bb:=eo.at hd;have oo:=p3.at hu;have Ij:(A++Z++C)[((i:Int)+(j:Int)).toNat]? = some u:=R8 (by omega) hu;obtain ⟨pr,tf⟩ : ∃ pr,pr=c+q*d:=⟨_,rfl⟩;obtain ⟨m1,m2,m3⟩:=sC r1 bb p4 (show pr=q*d+c by omega);have xg:W[i]? = some u:=by
   have e1:(Z.drop i)[0]? = (W.drop i)[0]? := by rw[p6]
   simpa [hu] using e1.symm
  have je : ∀ w,(Z.set i w).drop (i+1)=W.drop (i+1):=λ w=>by
   rw[List.drop_set_of_lt (by omega)];have e1:(Z.drop i).drop 1=(W.drop i).drop 1:=by rw[p6]
   simpa using e1
  have g8 : ∀ have' take w bq,take=pr%4294967296+b->((have'=u/\bq=0/\take<=u)\/(have'=u+4294967296/\bq=1/\u<take))->w+take=have'->val ((Z.set i w).take (i+1))+q*val (y.take (i+1))=val (W.take (i+1))+4294967296^(i+1)*(pr/4294967296+bq):=λ have' take w bq a1 a2 a3=>by
   rw[FO (by omega),DX hd,DX xg,Nat.pow_succ];exact AfJ p7 tf a1 a2 a3
  by_cases g9:u<pr%4294967296+b
  ·have h3:=g8 (u+4294967296) (pr%4294967296+b) (u+4294967296-(pr%4294967296+b)) 1 rfl (Or.inr ⟨rfl,rfl,g9⟩) (by omega)
   (repeat' ((first|(apply AG<;>intro hc<;>try omega)|(apply AY;omega)|(apply AZ;omega)|(apply FR;omega)|(apply OM;omega)|(apply jO;omega)|(apply IC;omega;omega)|apply FA|(apply WR;omega)|(apply CF;omega)|(apply EA;omega)|(refine BA (by assumption) ?_ rfl ?_;omega)|refine IX (by assumption) ?_|apply AE)<;>conv=>whnf))
   rw[<-tf];skip
   refine N2 i (by omega) (by omega) ?_;(conv=>whnf)
   (repeat' ((first|(apply AZ;omega)|fail)<;>conv=>whnf))
   exact BS [] (by (conv=>whnf);exact ⟨rfl,rfl,rfl⟩) (ih (i+1) (Z.set i (u+4294967296-(pr%4294967296+b))) (pr/4294967296) 1 (by omega) ⟨by omega,by simpa using p2,p3.set _ (by omega),m1,by omega,je _,h3⟩)
  ·have h3:=g8 u (pr%4294967296+b) (u-(pr%4294967296+b)) 0 rfl (Or.inl ⟨rfl,rfl,by omega⟩) (by omega)
   (repeat' ((first|(apply AG<;>intro hc<;>try omega)|(apply AY;omega)|(apply AZ;omega)|(apply FR;omega)|(apply OM;omega)|(apply jO;omega)|(apply IC;omega;omega)|apply FA|(apply CF;omega)|(apply EA;omega)|(refine BA (by assumption) ?_ rfl ?_;omega)|refine IX (by assumption) ?_|apply AE)<;>conv=>whnf))
   rw[<-tf];skip
   refine N2 i (by omega) (by omega) ?_;(conv=>whnf)
   (repeat' ((first|(apply AZ;omega)|fail)<;>conv=>whnf))
   exact BS [] (by (conv=>whnf);exact ⟨rfl,rfl,rfl⟩) (ih (i+1) (Z.set i (u-(pr%4294967296+b))) (pr/4294967296) 0 (by omega) ⟨by omega,by simpa using p2,p3.set _ (by omega),m1,by omega,je _,h3⟩)
 ·obtain rfl:i=y.length:=by omega
  clear ih;obtain ⟨u,hu⟩ : ∃ u,Z[y.length]? = some u:=⟨_,zE (by omega)⟩;have oo:=p3.at hu;have Ij:(A++Z++C)[((j:Int)+(y.length:Int)).toNat]? = some u:=R8 (by omega) hu;have xg:W[y.length]? = some u:=by
   have e1:(Z.drop y.length)[0]? = (W.drop y.length)[0]? := by rw[p6]
   simpa [hu] using e1.symm
  rw[C3 (Nat.le_refl y.length)]at p7;have eW:val W=val (W.take y.length)+4294967296^y.length*u:=by
   rw[<-DX xg,C3 (by omega)]
  have g8 : ∀ have' take w bq,take=c+b->((have'=u/\bq=0/\take<=u)\/(have'=u+4294967296/\bq=1/\u<take))->w+take=have'->val (Z.set y.length w)+q*val y=val W+4294967296^y.length*4294967296*bq:=λ have' take w bq a1 a2 a3=>by
   have h1:=AfH p7 a1 a2 a3;rw[<-eW,<-FO (show y.length<Z.length by omega),C3 (by simp;omega)]at h1;exact h1
  by_cases g9:u<c+b
  ·have h3:=g8 (u+4294967296) (c+b) (u+4294967296-(c+b)) 1 rfl (Or.inr ⟨rfl,rfl,g9⟩) (by omega)
   have Fb:A0 (Z.set y.length (u+4294967296-(c+b))):=p3.set _ (by omega);have De:(Z.set y.length (u+4294967296-(c+b))).length=y.length+1:=by simpa using p2
   rw[Nat.mul_one]at h3;have Dd:=EY Fb;rw[De,Nat.pow_succ]at Dd;obtain ⟨y1,y2,y3⟩:=mB v7 r3 Dd h3;(repeat' ((first|(apply AG<;>intro hc<;>try omega)|(apply AY;omega)|(apply AZ;omega)|(apply FR;omega)|(apply IC;omega;omega)|(apply WR;omega)|(apply CF;omega)|(apply EA;omega)|refine IX (by assumption) ?_|apply AE)<;>conv=>whnf))
   refine N2 y.length (by omega) (by omega) ?_;(conv=>whnf)
   (repeat' ((first|(apply AG<;>intro hc<;>try omega)|(apply IC;omega;omega))<;>conv=>whnf))
   clear p7 p6 eW hu xg oo Ij p2 p3 g8;generalize Z.set y.length (u+4294967296-(c+b))=X at *;have hRV:val W%val y<val y:=Nat.mod_lt _ v7;have Bc:=EY eo;obtain ⟨xw,qu⟩ : ∃ xw,X[y.length]? = some xw:=⟨_,zE (by omega)⟩;have eX:val X=val (X.take y.length)+4294967296^y.length*xw:=by
    rw[<-DX qu,C3 (by omega)]
   have vb:q-1<4294967296:=by omega
   refine FV (λ i _ _=>y.length-i) (λ(i:Nat) (Z:List Nat) (c:Nat)=>i<=y.length/\Z.length=y.length+1/\A0 Z/\c<=1/\Z.drop i=X.drop i/\val (Z.take i)+4294967296^i*c=val (X.take i)+val (y.take i)) (λ i Z c=>[(26,.int .i64 i),(25,.int .u64 (c:Int))]) (λ i Z c=>[(69,101021,.rw 1 ((A++Z++C).map AL))]) 0 X 0 ⟨by omega,De,Fb,by omega,rfl,by simp [val]⟩ ?_;intro i Z c ⟨p1,p2,p3,p4,p6,p7⟩ ih;by_cases hi:i<y.length
   ·obtain ⟨d,hd⟩ : ∃ d,y[i]? = some d:=⟨_,zE hi⟩
    obtain ⟨u,hu⟩ : ∃ u,Z[i]? = some u:=⟨_,zE (by omega)⟩;have bb:=eo.at hd;have oo:=p3.at hu;have Ij:(A++Z++C)[((i:Int)+(j:Int)).toNat]? = some u:=R8 (by omega) hu;have lk:X[i]? = some u:=by
     have e1:(Z.drop i)[0]? = (X.drop i)[0]? := by rw[p6]
     simpa [hu] using e1.symm
    have nb:=kD (d:=d) (w:=u) (t:=c+(u+d)) p7 (by omega);(repeat' ((first|(apply AG<;>intro hc<;>try omega)|(apply AY;omega)|(apply AZ;omega)|(apply FR;omega)|(apply CF;omega)|apply FI|(refine BA (by assumption) ?_ rfl ?_;omega)|refine IX (by assumption) ?_|apply AE)<;>conv=>whnf))
    generalize ht2:c+(u+d)=t2 at *;refine N2 i (by omega) (by omega) ?_;(conv=>whnf)
    (repeat' ((first|(apply AZ;omega)|apply FA)<;>conv=>whnf))
    refine BS [] (by (conv=>whnf);exact ⟨rfl,rfl,rfl⟩) (ih (i+1) (Z.set i (t2%4294967296)) (t2/4294967296) (by omega) ⟨by omega,by simpa using p2,p3.set _ (by omega),by omega,?_,?_⟩)
    ·rw[List.drop_set_of_lt (by omega)]
     have e1:(Z.drop i).drop 1=(X.drop i).drop 1:=by rw[p6]
     simpa using e1
    ·rw[FO (by omega),DX hd,DX lk,Nat.pow_succ]
     exact nb
   ·obtain rfl:i=y.length:=by omega
    clear ih;obtain ⟨u,hu⟩ : ∃ u,Z[y.length]? = some u:=⟨_,zE (by omega)⟩;have oo:=p3.at hu;have Ij:(A++Z++C)[((j:Int)+(y.length:Int)).toNat]? = some u:=R8 (by omega) hu;have lk:X[y.length]? = some u:=by
     have e1:(Z.drop y.length)[0]? = (X.drop y.length)[0]? := by rw[p6]
     simpa [hu] using e1.symm
    rw[lk]at qu;obtain rfl:u=xw:=by simpa using qu
    rw[C3 (Nat.le_refl y.length)]at p7;have Fe:=EY (p3.take y.length);rw[List.length_take,Nat.min_eq_left (by omega)]at Fe;rw[eX]at y3;have af:=kC p7 y3 (by omega) Fe;rw[<-FO (show y.length<Z.length by omega),C3 (by simp;omega)]at af;(repeat' ((first|(apply AG<;>intro hc<;>try omega)|(apply AY;omega)|(apply AZ;omega)|apply jN|(apply EA;omega)|refine IX (by assumption) ?_|apply AE)<;>conv=>whnf))
    refine N2 y.length (by omega) (by omega) ?_;(conv=>whnf)
    (repeat' ((first|(apply AY;omega)|(apply EA;omega))<;>conv=>whnf))
    refine E6 (by omega) ?_;(conv=>whnf)
    (repeat' ((first|(apply B1;omega)|fail)<;>conv=>whnf))
    exact BS [] (by (conv=>whnf);exact ⟨rfl,rfl,rfl⟩) (hk _ _ (by simpa using p2) (p3.set _ (by omega)) af y1)
  ·have h3:=g8 u (c+b) (u-(c+b)) 0 rfl (Or.inl ⟨rfl,rfl,by omega⟩) (by omega)
   rw[Nat.mul_zero,Nat.add_zero]at h3;obtain ⟨y1,y2⟩:=mC v7 r2 h3;(repeat' ((first|(apply AG<;>intro hc<;>try omega)|(apply AY;omega)|(apply AZ;omega)|(apply FR;omega)|(apply IC;omega;omega)|(apply CF;omega)|(apply EA;omega)|refine IX (by assumption) ?_|apply AE)<;>conv=>whnf))
   refine N2 y.length (by omega) (by omega) ?_;(conv=>whnf)
   (repeat' ((first|(apply AG<;>intro hc<;>try omega)|(apply AY;omega)|(apply EA;omega))<;>conv=>whnf))
   refine E6 (by omega) ?_;(conv=>whnf)
   (repeat' ((first|(apply B1;omega)|fail)<;>conv=>whnf))
   exact BS [] (by (conv=>whnf);exact ⟨rfl,rfl,rfl⟩) (hk _ _ (by simpa using p2) (p3.set _ (by omega)) y2 y1)
theorem Vl (hA:A.length=j) (hW:W.length=y.length+1) (D2:A0 W) (eo:A0 y) (gb:2<=y.length) (vn:y.length<=549755813888) (v7:0<val y) (db:j<=1099511627776)
  (n2:4294967296^(y.length-1)*2147483648<=val y) (g2:val W<4294967296*val y) (np:ul=j+(y.length+1)+C.length) (Iq:w.length=m) (zq:j<m)
  (hk : ∀ (W':List Nat) (q':Nat),W'.length=y.length+1->A0 W'->val W'=val W%val y->q'=val W/val y->AA L XX (XY y s ul m ((j:Int)-1)) [(69,101021,.rw 1 ((A++W'++C).map AL)),(85,85,.rw 1 ((w.set j q').map AL))] Q) :
  AA L (.code DP.l2::XX) (XY y s ul m (j:Int)) [(69,101021,.rw 1 ((A++W++C).map AL)),(85,85,.rw 1 (w.map AL))] Q:=by
 obtain ⟨UL,a1,a2⟩:=Z7 D2 (n:=y.length+1) (by omega) (by omega);obtain ⟨VL,b5,b6⟩:=wZ eo (n:=y.length) gb (by omega);obtain ⟨u0,w0⟩ : ∃ d,W[y.length]? = some d:=⟨_,zE (by omega)⟩;obtain ⟨u1,w1⟩ : ∃ d,W[y.length-1]? = some d:=⟨_,zE (by omega)⟩;obtain ⟨u2,w2⟩ : ∃ d,W[y.length-2]? = some d:=⟨_,zE (by omega)⟩;obtain ⟨f1,x1⟩ : ∃ d,y[y.length-1]? = some d:=⟨_,zE (by omega)⟩;obtain ⟨f2,x2⟩ : ∃ d,y[y.length-2]? = some d:=⟨_,zE (by omega)⟩;rw[show y.length+1-3=y.length-2 by omega,show y.length+1-2=y.length-1 by omega,show y.length+1-1=y.length by omega,GE w0,GE w1,GE w2]at a2;rw[show y.length+1-3=y.length-2 by omega]at a1;rw[GE x1,GE x2]at b6;have rj:=wL eo (k:=y.length-1) (by omega) n2 x1;have k0:=D2.at w0;have k1:=D2.at w1;have k2:=D2.at w2;have k3:=eo.at x1;have k4:=eo.at x2;have z1:y[((y.length:Int)-1).toNat]? = some f1:=by rw[show ((y.length:Int)-1).toNat=y.length-1 by omega];exact x1
 have z2:y[((y.length:Int)-2).toNat]? = some f2:=by rw[show ((y.length:Int)-2).toNat=y.length-2 by omega];exact x2
 have u4:(A++W++C)[((j:Int)+(y.length:Int)).toNat]? = some u0:=R8 (by omega) w0;(repeat' ((first|(apply AG<;>intro hc<;>try omega)|(apply AY;omega)|(apply AZ;omega)|(apply B1;omega)|(apply N1;omega)|(apply CF;omega)|refine IX (by assumption) ?_|apply AE)<;>conv=>whnf))
 have w6:(A++W++C)[((j:Int)+(y.length:Int)-1).toNat]? = some u1:=R8 (by omega) w1;refine zH w6 ?_;(conv=>whnf)
 refine jF (by omega) ?_;(conv=>whnf)
 refine ON (by omega) ?_;(conv=>whnf)
 clear u4 w6;have z7:(A++W++C)[((j:Int)+(y.length:Int)-2).toNat]? = some u2:=R8 (by omega) w2;generalize Mu:u0*4294967296+u1=top at *;have tk:top<=18446744073709551615:=by omega
 have hU:val W=UL+4294967296^(y.length-2)*(u2+4294967296*top):=by rw[a2,show u1+4294967296*u0=top by omega]
 (repeat' ((first|(apply B1;omega)|(apply T6;omega)|(apply WT;omega;omega)|(apply CF;omega)|(refine BA (by assumption) ?_ rfl ?_;omega))<;>conv=>whnf))
 refine WE (λ q _=>q) (λ(q r:Nat)=>Gs (val W) (val y) f1 f2 u2 top q r) (λ q r=>[(16,.int .u64 (q:Int)),(17,.int .u64 (r:Int))]) (λ_ _=>[]) [] [] (top/f1) (top%f1) (by (conv=>whnf);exact ⟨rfl,rfl,rfl⟩) (Gs.start hU b6 a1 k2 v7 (by omega) k3) ?_;intro q r g ow;have hqt:q<=top:=by
  have h3:=g.hq;have h4:q*1<=q*f1:=Nat.mul_le_mul_left q (by omega);omega
 have hr:=g.hr;have lv:=g.ge;by_cases hb:4294967296<=q
 ·obtain ⟨y1,y2,y3⟩:=g.next hU b6 a1 v7 g2 (Or.inl hb)
  (repeat' ((first|(apply AG<;>intro hc<;>try omega)|(apply B1;omega)|(apply FR;omega)|(apply IC;omega;omega)|(apply CF;omega)|(refine BA (by assumption) ?_ rfl ?_;omega)|apply AE)<;>conv=>whnf))
  ·obtain ⟨t1,t2⟩:=S3 hU b6 b5 rj k4 g2 y2 (Or.inr (by omega))
   exact BS [] (by (conv=>whnf);exact ⟨rfl,rfl,rfl⟩) (bU (w:=w) (C:=C) hA hW D2 eo gb vn v7 db np Iq zq t1 y3 t2 hk)
  ·exact BS [] (by (conv=>whnf);exact ⟨rfl,rfl,rfl⟩) (ow (q-1) (r+f1) (by omega) ⟨y2,by omega,y3⟩)
 ·have hmq:=TC (show q<4294967296 by omega) k4
  by_cases o3:r*4294967296+u2<q*f2
  ·obtain ⟨y1,y2,y3⟩:=g.next hU b6 a1 v7 g2 (Or.inr o3)
   (repeat' ((first|(apply AG<;>intro hc<;>try omega)|(apply AY;omega)|(apply AZ;omega)|(apply B1;omega)|(apply FR;omega)|(apply OM;omega)|(apply N1;omega)|(apply ON;omega)|(apply IC;omega;omega)|(apply CF;omega)|(refine BA (by assumption) ?_ rfl ?_;omega)|refine IX (by assumption) ?_|apply AE)<;>conv=>whnf))
   ·obtain ⟨t1,t2⟩:=S3 hU b6 b5 rj k4 g2 y2 (Or.inr (by omega))
    exact BS [] (by (conv=>whnf);exact ⟨rfl,rfl,rfl⟩) (bU (w:=w) (C:=C) hA hW D2 eo gb vn v7 db np Iq zq t1 y3 t2 hk)
   ·exact BS [] (by (conv=>whnf);exact ⟨rfl,rfl,rfl⟩) (ow (q-1) (r+f1) (by omega) ⟨y2,by omega,y3⟩)
  ·obtain ⟨t1,t2⟩:=S3 hU b6 b5 rj k4 g2 g.hq (Or.inl ⟨by omega,by omega⟩)
   (repeat' ((first|(apply AG<;>intro hc<;>try omega)|(apply AY;omega)|(apply AZ;omega)|(apply B1;omega)|(apply OM;omega)|(apply N1;omega)|(apply ON;omega)|(apply CF;omega)|(refine BA (by assumption) ?_ rfl ?_;omega)|refine IX (by assumption) ?_|apply AE)<;>conv=>whnf))
   exact BS [] (by (conv=>whnf);exact ⟨rfl,rfl,rfl⟩) (bU (w:=w) (C:=C) hA hW D2 eo gb vn v7 db np Iq zq t1 lv t2 hk)
end
theorem AhF {l:List Nat} (hD:A0 l) (h:l[l.length-1]? = some 0):val l<4294967296^(l.length-1):=by
 have hl:=(zS h).1;have h1:=JR l (l.length-1) (by omega);have h2:=GX h;rw[List.drop_of_length_le (show l.length<=l.length-1+1 by omega),IB]at h2;rw[h2]at h1;simp only[Nat.mul_zero,Nat.add_zero]at h1;have h3:=EY (hD.take (l.length-1));rw[List.length_take,Nat.min_eq_left (by omega)]at h3;omega
theorem mF (N:a5 L) {X Y s:Nat} {x u y:List Nat} (hY:Y≠0) (cg:s<=31) (Hq:A0 u) (Hs:val u=X*2^s) (hU0:u[u.length-1]? = some 0) (np:x.length+1<=u.length/\u.length<=549755813888) (eo:A0 y) (Ht:val y=Y*2^s) (mh:2<=y.length/\y.length<=x.length) (n2:4294967296^(y.length-1)*2147483648<=val y) :
  AA L Vj [(10,.row 69 0 1 0 u.length),(11,.sl false (y.map AL)),(9,.int .i64 (s:Int)),(0,.sl false (x.map AL))] [(69,101021,.rw 1 (u.map AL))] (PQ DP (.e6 [.sl false ((dg (X/Y)).map AL),.sl false ((dg (X%Y)).map AL),.int .i64 0])):=by
 refine C5 (λ(_:Nat)=>0) (λ_=>True) (λ_=>[]) (λ_=>[]) 0 trivial ?_;intro _ _ _;(repeat' ((first|(apply AG<;>intro hc<;>try omega)|(apply AZ;omega)|(apply B1;omega)|apply AU|apply AE)<;>conv=>whnf))
 refine EJ (enc:=AL) 0 (u.length-y.length) (by rfl) (by omega) (by omega) ?_;(conv=>whnf)
 (repeat' ((first|(apply B1;omega)|fail)<;>conv=>whnf))
 have v7:0<val y:=by
  have:=tQ (y.length-1)
  omega
 have Bd:=EY eo;generalize hm:u.length-y.length=m at *;have uo:val (u.drop m)<val y:=by
  have h1:(u.drop m).length=y.length:=by simp;omega
  have h2:=AhF (l:=u.drop m) (Hq.drop _) (by rw[h1,List.getElem?_drop,show m+(y.length-1)=u.length-1 by omega];exact hU0);rw[h1]at h2;omega
 rw[show (u.length:Int)-y.length-1=((m:Nat):Int)-1 by omega];refine FV (λ n _ _=>n) (λ(n:Nat) (o w:List Nat)=>n<=m/\o.length=u.length/\A0 o/\w.length=m/\A0 w/\val (o.drop n)<val y/\X*2^s=val (o.take n)+4294967296^n*(val (w.drop n)*val y+val (o.drop n))) (λ n o w=>[(14,.int .i64 ((n:Int)-1))]) (λ n o w=>[(69,101021,.rw 1 (o.map AL)),(85,85,.rw 1 (w.map AL))]) m u (List.replicate m 0) ⟨by omega,rfl,Hq,by simp,IG _,uo,by rw[<-Hs,List.drop_of_length_le (show (List.replicate m 0).length<=m by simp),IB,Nat.zero_mul,Nat.zero_add];exact JR u m (by omega)⟩ ?_;intro n o w ⟨p1,p2,p3,p4,p5,p6,p7⟩ ih;rcases n with _|j
 ·clear ih
  rw[List.drop_zero]at p6;rw[List.take_zero,List.drop_zero,List.drop_zero,IB,Nat.zero_add,Nat.pow_zero,Nat.one_mul]at p7;have je:val o=val (o.take y.length):=by
   have h1:=R6 o y.length;rcases Nat.eq_zero_or_pos (val (o.drop y.length)) with h2|h2
   ·rw[h2,Nat.mul_zero,Nat.add_zero]at h1;exact h1
   ·have h3:4294967296^y.length*1<=4294967296^y.length*val (o.drop y.length):=Nat.mul_le_mul_left _ h2
    omega
  have xh:X/Y=val w/\X%Y=val o/2^s:=by
   obtain ⟨z1,z2⟩:=mE (X:=X) (Y:=Y) (Nat.two_pow_pos s);rw[<-z1,<-z2,<-Ht,p7];have e1:(val w*val y+val o)/val y=val w:=by
    rw[Nat.mul_comm,Nat.mul_add_div v7,Nat.div_eq_of_lt p6,Nat.add_zero]
   have e2:(val w*val y+val o)%val y=val o:=by
    rw[Nat.mul_comm,Nat.mul_add_mod,Nat.mod_eq_of_lt p6]
   rw[e1,e2];exact ⟨rfl,rfl⟩
  rw[xh.1,xh.2,je];have hT:=λ q=>F5 N w q p5 (by omega)
  have de:(o.take y.length).length<=549755813888:=by rw[List.length_take];omega
  clear p7 xh uo;rw[<-p4];rcases Nat.eq_zero_or_pos s with h0|h0
  ·subst h0
   have hS:=λ q=>oM N (o.take y.length) q 0 (p3.take _) de (by omega)
   rw[Nat.pow_zero,Nat.mul_one]at hS;rw[Nat.pow_zero,Nat.div_one];(repeat' ((first|(apply AG<;>intro hc<;>try omega)|(refine EE (λ_=>rfl) rfl ?_ ?_;(first|rfl|simp))|apply AE|refine AD (hT _) ?_)<;>conv=>whnf))
   refine GY y.length rfl (by omega) ?_;(conv=>whnf)
   refine CI.neg (by omega) ?_;(conv=>whnf)
   refine HD (enc:=AL) (λ_=>rfl) (by omega) ?_;(conv=>whnf)
   rw[List.drop_zero,Nat.sub_zero,show -((0:Nat):Int)=((0:Nat):Int) by omega];(repeat' (refine AD (hS _) ?_<;>conv=>whnf))
   exact AX rfl (XJ _ _ _)
  ·have hS:=λ q=>AdP N (o.take y.length) q s (p3.take _) de (by omega)
   (repeat' ((first|(apply AG<;>intro hc<;>try omega)|(refine EE (λ_=>rfl) rfl ?_ ?_;(first|rfl|simp))|apply AE|refine AD (hT _) ?_)<;>conv=>whnf))
   refine GY y.length rfl (by omega) ?_;(conv=>whnf)
   refine CI.neg (by omega) ?_;(conv=>whnf)
   refine HD (enc:=AL) (λ_=>rfl) (by omega) ?_;(conv=>whnf)
   rw[List.drop_zero,Nat.sub_zero];(repeat' (refine AD (hS _) ?_<;>conv=>whnf))
   exact AX rfl (XJ _ _ _)
 ·have e3:((j+1:Nat):Int)-1=j:=by omega
  rw[e3];obtain ⟨A,W,C,hA,hW,rfl⟩:=mV o j (y.length+1) (by omega);obtain ⟨g1,g2,g3⟩:=mX hA hW p3 p6 Bd;obtain ⟨D1,D2,D3⟩:=mA p3;have vb:val W/val y<4294967296:=(Nat.div_lt_iff_lt_mul v7).2 g2;have Kg:val W=val W/val y*val y+val W%val y:=by rw[Nat.mul_comm];exact (Nat.div_add_mod _ _).symm
  have Fa:val W%val y<val y:=Nat.mod_lt _ v7;have Bb:X*2^s=val A+4294967296^j*val W+4294967296^j*4294967296*(val (w.drop (j+1))*val y):=by
   rw[p7,Nat.mul_add,<-g3,Nat.pow_succ];omega
  have qj:=mW Bb Kg;have yc : ∀ q',q'=val W/val y->val ((w.set j q').drop j)=val W/val y+4294967296*val (w.drop (j+1)):=λ q' h=>by
   rw[GX (l:=w.set j q') (d:=q') (by rw[List.getElem?_set_self (by omega)]),List.drop_set_of_lt (by omega),h]
  have hlen : ∀ W':List Nat,W'.length=y.length+1->(A++W'++C).length=u.length:=λ W' h=>by
   rw[<-p2];simp [h,hW]
  have Pw:u.length=j+(y.length+1)+C.length:=by rw[<-p2];simp [hA,hW];omega
  refine BS [] (by (conv=>whnf);exact ⟨rfl,rfl,rfl⟩) (Vl (m:=m) (s:=s) (ul:=u.length) (C:=C) hA hW D2 eo mh.1 (by omega) v7 (by omega) n2 g2 Pw p4 (by omega) (λ W' q' z1 z2 z3 z4 => ?_));obtain ⟨t1,t2⟩:=cA (A:=A) (W:=W') (C:=C) (j:=j) hA g1;refine BS [] (by (conv=>whnf);exact ⟨rfl,rfl,rfl⟩) (ih j (A++W'++C) (w.set j q') (by omega) ⟨by omega,hlen W' z1,(D1.append z2).append D3,by simpa using p4,p5.set _ (by omega),by omega,?_⟩);rw[t1,t2,yc q' z4,z3];exact qj
end Go.b8

namespace Go.b8
open F
attribute [local irreducible] AA AF AQ AC CI AW A5 A9 B4 B3 CE DE BX A3 BW CD AB A4 AJ pw BV BN CS CR C1 CY CT BL DD
variable {L:Lib}
set_option maxHeartbeats 8000000
theorem oL (N:a5 L) (a b:List Nat) (q1 q2:Bool) (hA:A0 a) (hB:A0 b) (la:a.length<=274877906944) (lb:b.length<=274877906944) (h0:val b≠0) :
  Ev L 109 [.sl q1 (a.map AL),.sl q2 (b.map AL)] (.e6 [.sl false ((dg (val a/val b)).map AL),.sl false ((dg (val a%val b)).map AL),.int .i64 0]):=by
 have t1:=λ q=>F5 N a q hA (by omega)
 have t2:=λ q=>F5 N b q hB (by omega)
 have l1:=EO hA;have l2:=EO hB;have k7:=λ q q'=>cP N (dg (val a)) (dg (val b)) q q' (DU _) (DU _) (by omega) (by omega)
 rw[BT,BT]at k7;generalize val a=X at *;generalize val b=Y at *;have d1:=DU X;have d2:=DU Y;have v1:=BT X;have v2:=BT Y;have hy1:=UQ h0;refine Ev.x N.DP rfl rfl ?_;by_cases h1:(dg Y).length=1
 ·obtain ⟨y0,pq⟩ : ∃ y0,dg Y=[y0]:=List.length_eq_one_iff.1 h1
  have wm:Y=y0:=by rw[<-v2,pq];simp [val]
  subst wm;have nr:Y<4294967296:=d2 Y (by rw[pq];simp);have hyg:(dg Y)[(0:Int).toNat]? = some Y:=by rw[pq];rfl
  have Qf:=λ q=>AdQ N (dg X) Y q d1 (by omega) h0 nr
  rw[v1]at Qf;have si:X%Y<4294967296:=Nat.lt_trans (Nat.mod_lt _ (by omega)) nr;have Hp:=λ q=>F5 N [X%Y] q (G2 si) (by simp)
  rw[show val [X%Y]=X%Y by simp [val]]at Hp;clear pq v2;generalize dg Y=y at *;(repeat' ((first|(apply AG<;>intro hc<;>try omega)|apply AU|(refine BA (by assumption) ?_ rfl ?_;omega)|refine HM rfl ?_|apply AE|refine AD (t1 _) ?_|refine AD (t2 _) ?_|refine AD (Qf _) ?_|refine AD (Hp _) ?_)<;>conv=>whnf))
  exact AX rfl (XJ _ _ _)
 by_cases g9:X<Y
 ·rw[<-HR (by omega)]at k7
  (repeat' ((first|(apply AG<;>intro hc<;>try omega)|apply AU|apply AE|refine AD (t1 _) ?_|refine AD (t2 _) ?_|refine AD (k7 _ _) ?_)<;>conv=>whnf))
  refine AX ?_ (XJ _ _ _);rw[Nat.div_eq_of_lt g9,Nat.mod_eq_of_lt g9,EU];rfl
 have lv:=XM (show Y<=X by omega);generalize C2 X Y=cm at *;have Gd:2<=(dg Y).length:=by omega
 obtain ⟨yt,yf,yg⟩:=bP h0;have vq:=d2.at yf;obtain ⟨b1,b2,b3,b4⟩:=eI yg vq;have jg:=λ q=>Zy N yt q yg vq
 generalize hs:32-m6 yt=s at *;have cg:s<=31:=by omega
 have Mo:=λ q=>oM N (dg Y) q s d2 (by omega) (by omega)
 obtain ⟨n1,n2⟩:=dZ d2 yf (by omega) cg b3 b4;rw[v2]at Mo n1 n2;have je:(dg Y).drop ((dg Y).length-1)=[yt]:=by
  obtain ⟨hi,he⟩:=zS yf;rw[List.drop_eq_getElem_cons hi,he,List.drop_of_length_le (by omega)]
 have mh:(dg (Y*2^s)).length=(dg Y).length:=by
  have a1:=N9.2 n1;have a2 : ¬ (dg (Y*2^s)).length<=(dg Y).length-1:=λ h=>by
   have:=N9.1 h
   omega
  omega
 have AmJ:(dg (X*2^s)).length<=(dg X).length+1:=by
  refine N9.2 ?_;have a1:X<4294967296^(dg X).length:=N9.1 (Nat.le_refl _);rw[Nat.pow_succ];have a2:=VO (s:=s) (by omega);exact Nat.lt_of_lt_of_le (Nat.mul_lt_mul_of_pos_right a1 (Nat.two_pow_pos s)) (Nat.mul_le_mul_left _ a2)
 have De:(dg X).length<=(dg (X*2^s)).length:=PX (Nat.le_mul_of_pos_right _ (Nat.two_pow_pos s));have rz:=PX (show Y<=X by omega);generalize hx:dg X=x at *;generalize hy:dg Y=y at *;have t3:=λ q=>F5 N x q d1 (by omega)
 rw[v1,hx]at t3;(repeat' ((first|(apply AG<;>intro hc<;>try omega)|(apply B1;omega)|apply AU|apply AE|refine AD (t1 _) ?_|refine AD (t2 _) ?_|refine AD (k7 _ _) ?_)<;>conv=>whnf))
 rw[show (y.length:Int)-1=((y.length-1:Nat):Int) by omega];refine Tj (k:=y.length-1) (λ_=>rfl) (by omega) ?_;(conv=>whnf)
 rw[je];(repeat' ((first|(apply B1;omega)|refine AD (jg _) ?_)<;>conv=>whnf))
 rw[show (32:Int)-(m6 yt:Nat)=((s:Nat):Int) by omega];refine FW 1000 N.H2 rfl rfl ?_;have hsq:(s:Int)/32=((0:Nat):Int):=by omega
 have hsr:(s:Int)%32=((s:Nat):Int):=by omega
 (repeat' ((first|(apply AG<;>intro hc<;>try omega)|(refine QR ?_ ?_ (λ_ => ?_) (λ_ _ => ?_);omega;omega;all_goals try omega)|apply AU|apply AE|refine AD (t3 _) ?_)<;>conv=>whnf))
 rw[hsq];refine EJ (enc:=AL) 0 0 rfl rfl (by omega) ?_;(conv=>whnf)
 skip
 refine FV (λ i _ _=>x.length-i) (λ(i:Nat) (o:List Nat) (c:Nat)=>i<=x.length/\o.length=i/\A0 o/\c<2^s/\val o+4294967296^i*c=val (x.take i)*2^s) (λ i o c=>[(10,.int .i64 i),(9,.int .u64 (c:Int)),(8,.row 107069 0 1 0 i)]) (λ i o c=>[(107069,107069,.rw 1 (o.map AL))]) 0 [] 0 ⟨by omega,rfl,SR,Nat.two_pow_pos _,by simp [val]⟩ ?_;intro i o c ⟨p1,p2,p3,p4,p5⟩ ih;have ti:=VO (s:=s) (by omega);by_cases hi:i<x.length
 ·obtain ⟨d,hd⟩ : ∃ d,x[i]? = some d:=⟨_,zE hi⟩
  have bb:=d1.at hd;obtain ⟨f1,f2,f3,f4⟩:=RV (s:=s) bb (by omega);have hr:=YU (show s<=64 by omega) f4;(repeat' ((first|(apply AG<;>intro hc<;>try omega)|(refine T7 ?_ (λ_ _ _ => ?_) (λ_ _ _ _ => ?_);omega;all_goals try omega)|(apply CF;omega)|apply AU|(refine BA (by assumption) ?_ rfl ?_;omega)|apply AE)<;>conv=>whnf))
  rw[hsr];refine OP (by omega) f4 ?_;(conv=>whnf)
  skip
  refine WS s (Nat.mul_mod_left _ _) p4 (by omega) ?_;(conv=>whnf)
  have g8:=wU (d:=d) (P:=1) (V:=val o) (p:=4294967296^i) (lo:=c) (X:=val (x.take i)) (s:=s) (by rw[Nat.one_mul,Nat.one_mul];exact p5) rfl;have jc:(c+d*2^s)/4294967296<2^s:=by
   rw[Nat.div_lt_iff_lt_mul (by omega)];have:=zR (2^s) (show d<=4294967295 by omega)
   omega
  generalize c+d*2^s=t at *;(repeat' ((first|apply FI|apply E5)<;>conv=>whnf))
  refine FP (enc:=AL) (t%4294967296) rfl p2.symm rfl (by omega) (by omega) ?_;(conv=>whnf)
  (repeat' ((first|(apply AZ;omega)|apply FA)<;>conv=>whnf))
  rw[show (o++[t%4294967296]).length=i+1 by simp [p2]];refine BS [(107069,107091)] (by (conv=>whnf);exact ⟨rfl,rfl,rfl⟩) (ih (i+1) (o++[t%4294967296]) (t/4294967296) (by omega) ⟨by omega,by simp;omega,p3.append (G2 (by omega)),jc,?_⟩);rw[NX,p2,DX hd,Nat.pow_succ];rw[Nat.one_mul,Nat.one_mul]at g8;exact g8
 obtain rfl:i=x.length:=by omega
 clear ih;have jd:c<4294967296:=by omega
 have hOD:A0 (o++[c]):=p3.append (G2 jd);have yx:val (o++[c])=X*2^s:=by
  rw[NX,p2,p5,C3 (Nat.le_refl _),v1]
 have Eu:(o++[c]).length=x.length+1:=by simp [p2]
 (repeat' ((first|(apply AG<;>intro hc<;>try omega)|(apply EA;omega)|apply AU|apply E5|apply AE)<;>conv=>whnf))
 refine FP (enc:=AL) c rfl p2.symm rfl (by omega) (by omega) ?_;(conv=>whnf)
 rw[Eu];generalize o++[c]=O at *;rw[<-Eu];clear p3 p4 p5;refine FW 1000 N.G7 rfl rfl ?_;(repeat' (apply AE<;>conv=>whnf))
 refine C5 (λ n=>n) (λ(n:Nat)=>n<=(O).length /\ ∀ i,n<=i->i<(O).length->(O)[i]? = some 0) (λ n=>[(3,.int .i64 n)]) (λ_=>[]) (O).length ⟨Nat.le_refl _,λ i h1 h2=>by omega⟩ ?_;intro n ⟨p1,p2⟩ ih;rcases n with _|n
 ·(repeat' ((first|(apply AG<;>intro hc<;>try omega)|apply AE)<;>conv=>whnf))
  refine GY 0 (by omega) (by omega) ?_;(conv=>whnf)
  have az:=F2 (l:=O) (by assumption) p1 p2 (Or.inl rfl);have m5:(List.take 0 O).length<=(O).length:=by rw[List.length_take];omega
  clear ih p2;refine UA (enc:=AL) (by omega) ?_;(conv=>whnf)
  rw[List.drop_zero,Nat.sub_zero];generalize Kb:List.take 0 O=T0 at *;refine OJ (enc:=AL) (λ_=>rfl) (by omega) (by omega) ?_;(conv=>whnf)
  refine ⟨rfl,_,rfl,?_⟩;(conv=>whnf)
  (refine ⟨rfl,_,rfl,?_⟩;(conv=>whnf);(repeat' ((first|apply E5|refine AD (Mo _) ?_)<;>conv=>whnf));refine FP (enc:=AL) 0 rfl rfl rfl (by omega) (by omega) ?_;(conv=>whnf);rw[yx]at az;rw[az];exact BS [] (by (conv=>whnf);exact ⟨rfl,rfl,rfl⟩) (mF N (x:=x) (X:=X) (Y:=Y) (s:=s) (u:=dg (X*2^s)++[0]) (y:=dg (Y*2^s)) h0 cg ((DU _).append (G2 (by omega))) (by rw[NX,BT,Nat.mul_zero,Nat.add_zero]) (by simp) (by simp;omega) (DU _) (BT _) (by omega) (by rw[BT,mh];exact n2)))
 ·have e1:((n+1:Nat):Int)-1=n:=by omega
  (repeat' ((first|(apply AG<;>intro hc<;>try omega)|(apply AY;omega)|(apply B1;omega)|(refine QP (by assumption) ?_ (λ v hv hb => ?_);omega)|apply AE)<;>conv=>whnf))
  ·rw[e1]
   exact BM [] (ih n (by omega) ⟨by omega,λ i h1 h2=>by
    by_cases h:i=n
    ·subst h
     rw[e1,Int.toNat_natCast]at hv;rw[hv];congr 1;omega
    ·exact p2 i (by omega) h2⟩)
  ·refine GY (n+1) (by omega) (by omega) ?_
   (conv=>whnf)
   rw[e1,Int.toNat_natCast]at hv;have az:=F2 (l:=O) (by assumption) p1 p2 (Or.inr ⟨_,hv,by omega⟩);have m5:(List.take (n+1) O).length<=(O).length:=by rw[List.length_take];omega
   clear ih p2 hv;(rw[kI (l:=O)];rotate_left;exact rfl;exact rfl);(conv=>whnf)
   refine UA (enc:=AL) (by omega) ?_;(conv=>whnf)
   rw[List.drop_zero,Nat.sub_zero];generalize Kb:List.take (n+1) O=T0 at *;refine OJ (enc:=AL) (λ_=>rfl) (by omega) (by omega) ?_;(conv=>whnf)
   refine ⟨rfl,_,rfl,?_⟩;(conv=>whnf)
   (refine ⟨rfl,_,rfl,?_⟩;(conv=>whnf);(repeat' ((first|apply E5|refine AD (Mo _) ?_)<;>conv=>whnf));refine FP (enc:=AL) 0 rfl rfl rfl (by omega) (by omega) ?_;(conv=>whnf);rw[yx]at az;rw[az];exact BS [] (by (conv=>whnf);exact ⟨rfl,rfl,rfl⟩) (mF N (x:=x) (X:=X) (Y:=Y) (s:=s) (u:=dg (X*2^s)++[0]) (y:=dg (Y*2^s)) h0 cg ((DU _).append (G2 (by omega))) (by rw[NX,BT,Nat.mul_zero,Nat.add_zero]) (by simp) (by simp;omega) (DU _) (BT _) (by omega) (by rw[BT,mh];exact n2)))
theorem Zz (N:a5 L) (a b:List Nat) (q1 q2:Bool) (hA:A0 a) (hB:A0 b) (la:a.length<=274877906944) (lb:b.length<=274877906944) :
  Ev L 110 [.sl q1 (a.map AL),.sl q2 (b.map AL)] (.sl false ((dg (Nat.gcd (val a) (val b))).map AL)):=by
 have t1:=λ q=>F5 N a q hA (by omega)
 have t2:=λ q=>F5 N b q hB (by omega)
 have l1:=EO hA;have l2:=EO hB;generalize val a=X at *;generalize val b=Y at *;refine Ev.x N.MK rfl rfl ?_;(repeat' ((first|apply AE|refine AD (t1 _) ?_|refine AD (t2 _) ?_)<;>conv=>whnf))
 refine JS (λ_ y=>y) (λ(x y:Nat)=>(dg x).length<=274877906944/\(dg y).length<=274877906944/\Nat.gcd x y=Nat.gcd X Y) (λ x y=>[(0,.sl false ((dg x).map AL)),(1,.sl false ((dg y).map AL))]) (λ_ _=>[]) X Y ⟨by omega,by omega,rfl⟩ ?_;intro x y ⟨p1,p2,p3⟩ ih;rw[<-p3];by_cases h0:y=0
 ·subst h0
  have gk:(dg 0).length=0:=by rw[EU];rfl
  clear ih;rw[Nat.gcd_zero_right];(repeat' ((first|(apply AG<;>intro hc<;>try omega)|apply AU|apply AE)<;>conv=>whnf))
  exact AX rfl (I0 _)
 ·have hp:=UQ h0
  have hD:=λ q q'=>oL N (dg x) (dg y) q q' (DU _) (DU _) p1 p2 (by rw[BT];exact h0)
  rw[BT,BT]at hD;have g9:x%y<y:=Nat.mod_lt _ (by omega);have bm:=PX (Nat.le_of_lt g9);(repeat' ((first|(apply AG<;>intro hc<;>try omega)|apply AU|apply AE|refine AD (hD _ _) ?_)<;>conv=>whnf))
  rw[p3];exact BM [] (ih y (x%y) g9 ⟨p2,by omega,by rw[U6];exact p3⟩)
theorem I1 (N:a5 L) (n q:Bool) (m:List Nat) (hm:Sm 274877906944 m):Ev L 111 [.agg (rZ q n m)] (.agg (eZ (zv n m))):=by
 have hT:=λ q=>F5 N m q hm.1 (by have:=hm.2;omega)
 have hz:=HS (val m);have ha:=EM n m;refine Ev.x N.MZ rfl rfl ?_;cases n
 ·rw[D9]at *
  (repeat' ((first|apply AE|refine AD (hT _) ?_)<;>conv=>whnf))
  exact AX (EL ha.symm (F6 (by omega))) (DK _)
 ·rw[NY]at *
  (repeat' ((first|(apply AG<;>intro hc<;>try omega)|apply AU|apply AE|refine AD (hT _) ?_)<;>conv=>whnf))
  ·exact AX (EL ha.symm (NQ (by omega))) (DK _)
  ·exact AX (EL ha.symm (F6 (by omega))) (DK _)
theorem SX (N:a5 L) (n q:Bool) (m:List Nat) (hm:Sm 274877906944 m):Ev L 113 [.agg (rZ q n m)] (.int .i64 (n6 (zv n m))):=by
 have hT:=λ q=>I1 N n q m hm
 generalize zv n m=z at *;have hz:=HS z.natAbs;refine Ev.x N.MX rfl rfl ?_;(repeat' ((first|(apply AG<;>intro hc<;>try omega)|apply AU|apply AE|refine AD (hT _) ?_)<;>conv=>whnf))
 ·exact C6 (VX (by omega))
 ·cases hd:decide (z<0)
  ·(conv=>whnf)
   exact C6 (gQ (by have:=of_decide_eq_false hd;omega))
  ·(conv=>whnf)
   exact C6 (gP (of_decide_eq_true hd))
theorem X8 (N:a5 L) (n q:Bool) (m:List Nat) (hm:Sm 274877906944 m):Ev L 114 [.agg (rZ q n m)] (.agg (eZ (-(zv n m)))):=by
 have hT:=λ q=>I1 N n q m hm
 generalize zv n m=z at *;have hz:=HS z.natAbs;refine Ev.x N.MU rfl rfl ?_;(repeat' ((first|apply AE|refine AD (hT _) ?_)<;>conv=>whnf))
 cases hd:decide (z<0)
 ·have h1:=of_decide_eq_false hd
  (conv=>whnf)
  (repeat' ((first|(apply AG<;>intro hc<;>try omega)|apply AU)<;>conv=>whnf))
  ·exact AX (EL (by omega) (NQ (by omega))) (DK _)
  ·exact AX (EL (by omega) (F6 (by omega))) (DK _)
 ·have h1:=of_decide_eq_true hd
  (conv=>whnf)
  skip
  exact AX (EL (by omega) (F6 (by omega))) (DK _)
theorem O1 (N:a5 L) (n1 n2 q1 q2:Bool) (a b:List Nat) (ha:A0 a) (hb:A0 b) (hl:a.length+b.length<=274877906944):Ev L 118 [.agg (rZ q1 n1 a),.agg (rZ q2 n2 b)] (.agg (eZ (zv n1 a*zv n2 b))):=by
 have h1:=λ q q'=>AdO N a b q q' ha hb (by omega)
 have sa:Sm a.length a:=⟨ha,Nat.le_refl _⟩;have sb:Sm b.length b:=⟨hb,Nat.le_refl _⟩;have hT:=λ n q=>I1 N n q (dg (val a*val b)) ((sa.mul sb rfl).le hl)
 have e : ∀ n,zv n (dg (val a*val b))=bif n then -((val a*val b:Nat):Int) else ((val a*val b:Nat):Int):=λ n=>by unfold zv;rw[BT]
 have e2:zv n1 a*zv n2 b=zv (n1 != n2) (dg (val a*val b)):=by
  rw[e];cases n1<;>cases n2<;>simp [D9,NY,Int.mul_neg,Int.neg_mul]
 rw[e2];refine Ev.x N.MT rfl rfl ?_;cases n1<;>cases n2;all_goals
  (repeat' ((first|apply AE|refine AD (h1 _ _) ?_|refine AD (hT _ _) ?_)<;>conv=>whnf))
  exact AX rfl (DK _)
theorem oN (N:a5 L) (n1 n2 q1 q2:Bool) (a b:List Nat) (ha:Sm 274877906943 a) (hb:Sm 274877906943 b):Ev L 115 [.agg (rZ q1 n1 a),.agg (rZ q2 n2 b)] (.agg (eZ (zv n1 a+zv n2 b))):=by
 have t1:=λ q=>I1 N n1 q a (ha.le (by omega))
 have t2:=λ q=>I1 N n2 q b (hb.le (by omega))
 have s1:Sm 274877906943 (dg (zv n1 a).natAbs):=by rw[EM];exact ha.wo
 have s2:Sm 274877906943 (dg (zv n2 b).natAbs):=by rw[EM];exact hb.wo
 generalize zv n1 a=x at *;generalize zv n2 b=y at *;have h1:=λ q q'=>oK N (dg x.natAbs) (dg y.natAbs) q q' s1.1 s2.1 (by have:=s1.2;omega) (by have:=s2.2;omega)
 have h2:=λ q q'=>cR N (dg x.natAbs) (dg y.natAbs) q q' s1.1 s2.1 (by have:=s1.2;omega) (by have:=s2.2;omega)
 have h3:=λ q q'=>cR N (dg y.natAbs) (dg x.natAbs) q q' s2.1 s1.1 (by have:=s2.2;omega) (by have:=s1.2;omega)
 have k7:=λ q q'=>cP N (dg x.natAbs) (dg y.natAbs) q q' s1.1 s2.1 (by have:=s1.2;omega) (by have:=s2.2;omega)
 rw[BT,BT]at h1 h2 h3 k7;have u1:=λ n q=>I1 N n q (dg (x.natAbs+y.natAbs)) (s1.add s2 (by rw[BT,BT];omega))
 have u2:=λ n q=>I1 N n q (dg (x.natAbs-y.natAbs)) ((s1.low (V:=x.natAbs-y.natAbs) (by rw[BT];omega)).le (by omega))
 have u3:=λ n q=>I1 N n q (dg (y.natAbs-x.natAbs)) ((s2.low (V:=y.natAbs-x.natAbs) (by rw[BT];omega)).le (by omega))
 have e : ∀ n V,zv n (dg V)=bif n then -(V:Int) else (V:Int):=λ n V=>by unfold zv;rw[BT]
 refine Ev.x N.MP rfl rfl ?_;(repeat' ((first|apply AE|refine AD (t1 _) ?_|refine AD (t2 _) ?_)<;>conv=>whnf))
 cases hx:decide (x<0)<;>cases hy:decide (y<0)
 ·have g1:=of_decide_eq_false hx
  have g2:=of_decide_eq_false hy;have hz:x+y=zv false (dg (x.natAbs+y.natAbs)):=by rw[e];simp only[cond_true,cond_false];omega
  rw[hz];(conv=>whnf)
  (repeat' ((first|refine AD (h1 _ _) ?_|refine AD (u1 _ _) ?_)<;>conv=>whnf))
  exact AX rfl (DK _)
 ·have g1:=of_decide_eq_false hx
  have g2:=of_decide_eq_true hy;by_cases g9:x.natAbs<y.natAbs
  ·have hz:x+y=zv true (dg (y.natAbs-x.natAbs)):=by rw[e];simp only[cond_true,cond_false];omega
   rw[hz];rw[<-HR (by omega)]at k7;(conv=>whnf)
   (repeat' ((first|(apply AG<;>intro hc<;>try omega)|refine AD (k7 _ _) ?_|refine AD (h3 _ _) ?_|refine AD (u3 _ _) ?_)<;>conv=>whnf))
   exact AX rfl (DK _)
  ·have hz:x+y=zv false (dg (x.natAbs-y.natAbs)):=by rw[e];simp only[cond_true,cond_false];omega
   rw[hz];have lv:=XM (show y.natAbs<=x.natAbs by omega);generalize C2 (x.natAbs:Nat) (y.natAbs:Nat)=cm at *;(conv=>whnf)
   (repeat' ((first|(apply AG<;>intro hc<;>try omega)|refine AD (k7 _ _) ?_|refine AD (h2 _ _) ?_|refine AD (u2 _ _) ?_)<;>conv=>whnf))
   exact AX rfl (DK _)
 ·have g1:=of_decide_eq_true hx
  have g2:=of_decide_eq_false hy;by_cases g9:x.natAbs<y.natAbs
  ·have hz:x+y=zv false (dg (y.natAbs-x.natAbs)):=by rw[e];simp only[cond_true,cond_false];omega
   rw[hz];rw[<-HR (by omega)]at k7;(conv=>whnf)
   (repeat' ((first|(apply AG<;>intro hc<;>try omega)|refine AD (k7 _ _) ?_|refine AD (h3 _ _) ?_|refine AD (u3 _ _) ?_)<;>conv=>whnf))
   exact AX rfl (DK _)
  ·have hz:x+y=zv true (dg (x.natAbs-y.natAbs)):=by rw[e];simp only[cond_true,cond_false];omega
   rw[hz];have lv:=XM (show y.natAbs<=x.natAbs by omega);generalize C2 (x.natAbs:Nat) (y.natAbs:Nat)=cm at *;(conv=>whnf)
   (repeat' ((first|(apply AG<;>intro hc<;>try omega)|refine AD (k7 _ _) ?_|refine AD (h2 _ _) ?_|refine AD (u2 _ _) ?_)<;>conv=>whnf))
   exact AX rfl (DK _)
 ·have g1:=of_decide_eq_true hx
  have g2:=of_decide_eq_true hy;have hz:x+y=zv true (dg (x.natAbs+y.natAbs)):=by rw[e];simp only[cond_true,cond_false];omega
  rw[hz];(conv=>whnf)
  (repeat' ((first|refine AD (h1 _ _) ?_|refine AD (u1 _ _) ?_)<;>conv=>whnf))
  exact AX rfl (DK _)
theorem AdT (N:a5 L) (n1 n2 q1 q2:Bool) (a b:List Nat) (ha:Sm 274877906943 a) (hb:Sm 274877906943 b):Ev L 116 [.agg (rZ q1 n1 a),.agg (rZ q2 n2 b)] (.agg (eZ (zv n1 a-zv n2 b))):=by
 have t2:=λ q=>X8 N n2 q b (hb.le (by omega))
 have s2:Sm 274877906943 (dg (-(zv n2 b)).natAbs):=by rw[Int.natAbs_neg,EM];exact hb.wo
 have h1:=λ q q'=>oN N n1 (decide (-(zv n2 b)<0)) q q' a (dg (-(zv n2 b)).natAbs) ha s2
 rw[ES,<-Int.sub_eq_add_neg]at h1;refine Ev.x N.MY rfl rfl ?_;(repeat' ((first|apply AE|refine AD (t2 _) ?_|refine AD (h1 _ _) ?_)<;>conv=>whnf))
 exact AX rfl (DK _)
theorem AdR (N:a5 L) (n1 n2 q1 q2:Bool) (a b:List Nat) (ha:Sm 274877906943 a) (hb:Sm 274877906943 b):Ev L 117 [.agg (rZ q1 n1 a),.agg (rZ q2 n2 b)] (.int .i64 (n6 (zv n1 a-zv n2 b))):=by
 have h1:=λ q q'=>AdT N n1 n2 q q' a b ha hb
 have s1:Sm 274877906943 (dg (zv n1 a).natAbs):=by rw[EM];exact ha.wo
 have s2:Sm 274877906943 (dg (zv n2 b).natAbs):=by rw[EM];exact hb.wo
 have s3:Sm 274877906944 (dg (zv n1 a-zv n2 b).natAbs):=s1.add s2 (by rw[BT,BT];omega);have h2:=λ q=>SX N (decide (zv n1 a-zv n2 b<0)) q (dg (zv n1 a-zv n2 b).natAbs) s3
 rw[ES]at h2;refine Ev.x N.MQ rfl rfl ?_;(repeat' ((first|apply AE|refine AD (h1 _ _) ?_|refine AD (h2 _) ?_)<;>conv=>whnf))
 exact C6 rfl
theorem cS (N:a5 L) (z:Int) (hz : -9223372036854775808<=z/\z<=9223372036854775807):Ev L 112 [.int .i64 z] (.agg (eZ z)):=by
 have two : ∀ k:Nat,k<18446744073709551616 -> ∀ n q,Ev L 111 [.agg [.bool n,.sl q [[.int .u32 ((k%4294967296:Nat):Int)],[.int .u32 ((k/4294967296:Nat):Int)]]]] (.agg (eZ (bif n then -(k:Int) else (k:Int)))):=λ k hk n q=>by
  have:=I1 N n q [k%4294967296,k/4294967296] ⟨(bJ hk).2,by simp⟩
  unfold zv at this;rw[xA hk]at this;exact this
 refine Ev.x N.MV rfl rfl ?_;by_cases h0:0<=z
 ·obtain ⟨k,rfl⟩:=Int.eq_ofNat_of_zero_le h0
  have hT:=two k (by omega);(repeat' ((first|(apply AG<;>intro hc<;>try omega)|apply FA|(apply CF;omega)|(apply EA;omega)|apply FI|refine PR rfl rfl ?_|apply AE)<;>conv=>whnf))
  generalize k%4294967296=lo at *;generalize k/4294967296=hi at *;(repeat' (refine AD (hT _ _) ?_<;>conv=>whnf))
  exact AX rfl (DK _)
 ·obtain ⟨k,hk⟩:=Int.eq_ofNat_of_zero_le (show 0 <= -(z+1) by omega)
  have nu:z = -((k+1:Nat):Int):=by omega
  have hT:=two (k+1) (by omega);(repeat' ((first|(apply AG<;>intro hc<;>try omega)|(apply AZ;omega)|apply zV|(apply CI.neg;omega)|(apply CF;omega)|apply AE)<;>conv=>whnf))
  rw[show IntKind.u64.wrap (-(z+1)+1)=((k+1:Nat):Int) by rw[IntWalk.u64_in _ (by omega)];omega];rw[nu];generalize k+1=k1 at *;(repeat' ((first|apply FA|(apply EA;omega)|apply FI|refine PR rfl rfl ?_)<;>conv=>whnf))
  generalize k1%4294967296=lo at *;generalize k1/4294967296=hi at *;(repeat' (refine AD (hT _ _) ?_<;>conv=>whnf))
  exact AX rfl (DK _)
theorem AdS (N:a5 L) (n1 n2 q1 q2:Bool) (a b:List Nat) (ha:Sm 274877906944 a) (hb:Sm 274877906944 b):Ev L 120 [.agg (rZ q1 n1 a),.agg (rZ q2 n2 b)] (.agg (eZ ((Nat.gcd (val a) (val b):Nat):Int))):=by
 have h1:=λ q q'=>Zz N a b q q' ha.1 hb.1 ha.2 hb.2
 refine Ev.x N.MS rfl rfl ?_;(repeat' ((first|apply AE|refine AD (h1 _ _) ?_)<;>conv=>whnf))
 exact AX (EL (by omega) (F6 (by omega))) (DK _)
theorem Xn (n1 n2:Bool) (A B:Nat) (hB:B≠0):(bif n1 then -(A:Int) else (A:Int))/(bif n2 then -(B:Int) else (B:Int))=(bif n1 != n2 then -((if n1=true/\A%B≠0 then A/B+1 else A/B:Nat):Int) else ((if n1=true/\A%B≠0 then A/B+1 else A/B:Nat):Int)) /\
  (bif n1 then -(A:Int) else (A:Int))%(bif n2 then -(B:Int) else (B:Int))=((if n1=true/\A%B≠0 then B-A%B else A%B:Nat):Int):=by
 have hBp:(0:Int)<B:=by omega
 have key : ∀ x:Int,x/(bif n2 then -(B:Int) else (B:Int))=(bif n2 then -(x/B) else x/B)/\x%(bif n2 then -(B:Int) else (B:Int))=x%B:=λ x=>by
  cases n2
  ·exact ⟨rfl,rfl⟩
  ·exact ⟨Int.ediv_neg x B,Int.emod_neg x B⟩
 rw[(key _).1,(key _).2];cases n1
 ·have h1:((A:Int))/B=((A/B:Nat):Int):=by simp
  have h2:((A:Int))%B=((A%B:Nat):Int):=by simp
  simp only[cond_false,h1,h2];cases n2<;>simp
 ·have hd:=Nat.div_add_mod A B
  have g9:=Nat.mod_lt A (show B>0 by omega);by_cases h0:A%B=0
  ·have e : -(A:Int)=(B:Int)*(-((A/B:Nat):Int)):=by
    rw[h0,Nat.add_zero]at hd;rw[Int.mul_neg,<-Int.natCast_mul,hd]
   have h1 : -(A:Int)/B = -((A/B:Nat):Int):=by rw[e,Int.mul_ediv_cancel_left _ (by omega)]
   have h2 : -(A:Int)%B=0:=by rw[e,Int.mul_emod_right]
   simp only[cond_true,h1,h2,h0];cases n2<;>simp
  ·have e : -(A:Int)=(B:Int)*(-((A/B+1:Nat):Int))+((B-A%B:Nat):Int):=by
    have h3:(B:Int)*((A/B:Nat):Int)+((A%B:Nat):Int)=A:=by rw[<-Int.natCast_mul,<-Int.natCast_add,hd]
    rw[Int.mul_neg,Int.natCast_add,Int.mul_add];omega
   have h1 : -(A:Int)/B = -((A/B+1:Nat):Int):=by
    rw[e,Int.mul_add_ediv_left _ _ (by omega),Int.ediv_eq_zero_of_lt (by omega) (by omega),Int.add_zero]
   have h2 : -(A:Int)%B=((B-A%B:Nat):Int):=by
    rw[e,Int.mul_add_emod_self_left,Int.emod_eq_of_lt (by omega) (by omega)]
   simp only[cond_true,h1,h2];cases n2<;>simp [h0]
theorem oO (N:a5 L) (n1 n2 q1 q2:Bool) (a b:List Nat) (ha:Sm 274877906943 a) (hb:Sm 274877906943 b) (h0:zv n2 b≠0):Ev L 119 [.agg (rZ q1 n1 a),.agg (rZ q2 n2 b)] (.e6 [.agg (eZ (zv n1 a/zv n2 b)),.agg (eZ (zv n1 a%zv n2 b)),.int .i64 0]):=by
 have t1:=λ q=>I1 N n1 q a (ha.le (by omega))
 have t2:=λ q=>I1 N n2 q b (hb.le (by omega))
 have s1:Sm 274877906943 (dg (zv n1 a).natAbs):=by rw[EM];exact ha.wo
 have s2:Sm 274877906943 (dg (zv n2 b).natAbs):=by rw[EM];exact hb.wo
 generalize zv n1 a=x at *;generalize zv n2 b=y at *;have Cz:=λ q q'=>oL N (dg x.natAbs) (dg y.natAbs) q q' s1.1 s2.1 (by have:=s1.2;omega) (by have:=s2.2;omega) (by rw[BT];omega)
 rw[BT,BT]at Cz;obtain ⟨e1,e2⟩:=Xn (decide (x<0)) (decide (y<0)) x.natAbs y.natAbs (by omega);have hx:(bif decide (x<0) then -(x.natAbs:Int) else (x.natAbs:Int))=x:=by have:=ES x;unfold zv at this;rw[BT]at this;exact this
 have hy:(bif decide (y<0) then -(y.natAbs:Int) else (y.natAbs:Int))=y:=by have:=ES y;unfold zv at this;rw[BT]at this;exact this
 rw[hx,hy]at e1 e2;rw[e1,e2];have l1:=s1.2;have l2:=s2.2;have hq:Sm 274877906943 (dg (x.natAbs/y.natAbs)):=s1.low (by rw[BT];exact Nat.div_le_self _ _);have hr:Sm 274877906943 (dg (x.natAbs%y.natAbs)):=s2.low (by rw[BT];exact Nat.le_of_lt (Nat.mod_lt _ (by omega)));have hrz:=HS (x.natAbs%y.natAbs);have gu:Ev L 103 [.sl false ((dg (x.natAbs/y.natAbs)).map AL),.sl true [[.int .u32 1]]] (.sl false ((dg (x.natAbs/y.natAbs+1)).map AL)):=by
  have:=oK N (dg (x.natAbs/y.natAbs)) [1] false true (DU _) (G2 (by omega)) (by have:=hq.2;omega) (by simp)
  rw[BT,show val [1]=1 from rfl]at this;exact this
 have xx:Sm 274877906944 (dg (x.natAbs/y.natAbs+1)):=hq.add (b:=[1]) (gT (by omega) (by omega)) (by rw[BT];simp [val]);have Gy:=λ q q'=>cR N (dg y.natAbs) (dg (x.natAbs%y.natAbs)) q q' s2.1 hr.1 (by omega) (by have:=hr.2;omega)
 rw[BT,BT]at Gy;have u1:=λ n q=>I1 N n q (dg (x.natAbs/y.natAbs)) (hq.le (by omega))
 have u2:=λ n q=>I1 N n q (dg (x.natAbs/y.natAbs+1)) xx
 have ez : ∀ n V,zv n (dg V)=bif n then -(V:Int) else (V:Int):=λ n V=>by unfold zv;rw[BT]
 have fin : ∀ (z:Int) (V:Nat),AJ (.e6 [.agg (eZ z),.agg [.bool false,.sl false ((dg V).map AL)],.int .i64 0]) (.e6 [.agg (eZ z),.agg (eZ (V:Int)),.int .i64 0]):=λ z V=>by
  have e3:AV.agg (eZ (V:Int)) = .agg [.bool false,.sl false ((dg V).map AL)]:=(EL (by omega) (F6 (by omega))).symm;rw[e3];refine AX rfl ?_;simp only[A2,B8,and_true,true_and];exact ⟨B5 _,B5 _⟩
 clear e1 e2 hx hy;generalize x.natAbs/y.natAbs=qq at *;generalize x.natAbs%y.natAbs=rr at *;refine Ev.x N.MR rfl rfl ?_;(repeat' ((first|(apply AG<;>intro hc<;>try omega)|apply AE|refine AD (t1 _) ?_|refine AD (t2 _) ?_|refine AD (Cz _ _) ?_)<;>conv=>whnf))
 generalize decide (x<0)=p at *;generalize decide (y<0)=r at *;cases p
 ·rw[if_neg (by simp),if_neg (by simp),<-ez]
  cases r;all_goals
   (conv=>whnf)
   (repeat' (refine AD (u1 _ _) ?_<;>conv=>whnf))
   exact fin _ _
 ·by_cases u4:rr=0
  ·rw[if_neg (by simp [u4]),if_neg (by simp [u4]),<-ez]
   cases r;all_goals
    (conv=>whnf)
    (repeat' ((first|(apply AG<;>intro hc<;>try omega)|apply AU|refine AD (u1 _ _) ?_)<;>conv=>whnf))
    exact fin _ _
  ·rw[if_pos ⟨rfl,u4⟩,if_pos ⟨rfl,u4⟩,<-ez]
   cases r;all_goals
    (conv=>whnf)
    (repeat' ((first|(apply AG<;>intro hc<;>try omega)|apply AU|refine HM rfl ?_|refine AD (gu) ?_|refine AD (Gy _ _) ?_|refine AD (u2 _ _) ?_)<;>conv=>whnf))
    exact fin _ _
theorem lZ:dg 1=[1]:=by rw[IE (by omega)];simp [EU]
theorem kH:AV.agg [.bool false,.sl false [],.sl false [[.int .u32 1]]] = .agg (eQ 0):=by
 show _=AV.agg (rQ _ _ _ _ _);rw[Rat.zero_num,Rat.zero_den,lZ,show (0:Int).natAbs=0 from rfl,EU];rfl
theorem Ve {x y:Int} (hy:y≠0):(Rat.divInt x y).num=(if y<0 then -(x/((Nat.gcd x.natAbs y.natAbs:Nat):Int)) else x/((Nat.gcd x.natAbs y.natAbs:Nat):Int))/\(Rat.divInt x y).den=(y/((Nat.gcd x.natAbs y.natAbs:Nat):Int)).natAbs:=by
 have h1:=Rat.num_divInt x y;have h2:=Rat.den_divInt x y;rw[if_neg hy]at h2;have hg:Int.gcd y x=Nat.gcd x.natAbs y.natAbs:=by rw[Int.gcd,Nat.gcd_comm]
 rw[hg]at h1 h2;have Lf:0<Nat.gcd x.natAbs y.natAbs:=Nat.gcd_pos_of_pos_right _ (by omega);have dx:((Nat.gcd x.natAbs y.natAbs:Nat):Int) ∣ x:=Int.ofNat_dvd_left.2 (Nat.gcd_dvd_left _ _);have dy:((Nat.gcd x.natAbs y.natAbs:Nat):Int) ∣ y:=Int.ofNat_dvd_left.2 (Nat.gcd_dvd_right _ _);generalize Nat.gcd x.natAbs y.natAbs=g at *;rw[h1,h2];obtain ⟨u,rfl⟩:=dx;obtain ⟨v,rfl⟩:=dy;have Br:(g:Int)≠0:=by omega
 refine ⟨?_,?_⟩
 ·rw[Int.mul_ediv_cancel_left _ Br]
  split
  ·rename_i h
   rw[Int.sign_eq_neg_one_of_neg h,show -1*((g:Int)*u)=g*(-u) by rw[Int.mul_neg];omega,Int.mul_ediv_cancel_left _ Br]
  ·rw[Int.sign_eq_one_of_pos (by omega),Int.one_mul,Int.mul_ediv_cancel_left _ Br]
 ·rw[Int.mul_ediv_cancel_left _ Br,Int.natAbs_mul,Int.natAbs_natCast,Nat.mul_div_cancel_left _ Lf]
theorem UY (N:a5 L) (n1 n2 q1 q2:Bool) (a b:List Nat) (ha:Sm 274877906943 a) (hb:Sm 274877906943 b):Ev L 121 [.agg (rZ q1 n1 a),.agg (rZ q2 n2 b)] (.agg (eQ (Rat.divInt (zv n1 a) (zv n2 b)))):=by
 have t1:=λ q=>SX N n1 q a (ha.le (by omega))
 have t2:=λ q=>SX N n2 q b (hb.le (by omega))
 by_cases h1:zv n1 a=0
 ·rw[h1,Rat.zero_divInt,<-kH]
  rw[h1,<-VX rfl]at t1;refine Ev.x N.H3 rfl rfl ?_;(repeat' ((first|(apply AG<;>intro hc<;>try omega)|refine HM rfl ?_|apply AE|refine AD (t1 _) ?_)<;>conv=>whnf))
  exact AX rfl (XH false [] [1])
 have s1:n6 (zv n1 a)≠0:=by unfold n6;split<;>(try split)<;>omega
 by_cases h2:zv n2 b=0
 ·rw[h2,Rat.divInt_zero,<-kH]
  rw[h2,<-VX rfl]at t2;generalize n6 (zv n1 a)=sg at *;refine Ev.x N.H3 rfl rfl ?_;(repeat' ((first|(apply AG<;>intro hc<;>try omega)|refine HM rfl ?_|apply AE|refine AD (t1 _) ?_|refine AD (t2 _) ?_)<;>conv=>whnf))
  exact AX rfl (XH false [] [1])
 have s2:n6 (zv n2 b)≠0:=by unfold n6;split<;>(try split)<;>omega
 obtain ⟨p1,p2⟩:=Ve (x:=zv n1 a) h2;have hG:=λ q q'=>AdS N n1 n2 q q' a b (ha.le (by omega)) (hb.le (by omega))
 have hle:Nat.gcd (val a) (val b)<=val b:=Nat.gcd_le_right _ (by have:=EM n2 b;omega);have Lf:0<Nat.gcd (val a) (val b):=Nat.gcd_pos_of_pos_right _ (by have:=EM n2 b;omega);have sg:Sm 274877906943 (dg (Nat.gcd (val a) (val b))):=hb.low hle;rw[EM,EM]at p1 p2;have hgf:decide (((Nat.gcd (val a) (val b):Nat):Int)<0)=false:=by simp
 have Ro:Sm 274877906943 (dg (((Nat.gcd (val a) (val b):Nat):Int)).natAbs):=by rw[Int.natAbs_natCast];exact sg
 have zg:zv (decide (((Nat.gcd (val a) (val b):Nat):Int)<0)) (dg (((Nat.gcd (val a) (val b):Nat):Int)).natAbs)=((Nat.gcd (val a) (val b):Nat):Int):=ES _;have El:=λ q q'=>oO N n1 _ q q' a _ ha Ro (by rw[zg];omega)
 have As:=λ q q'=>oO N n2 _ q q' b _ hb Ro (by rw[zg];omega)
 rw[zg]at El As;have me:Sm 274877906943 (dg (zv n1 a/((Nat.gcd (val a) (val b):Nat):Int)).natAbs):=ha.low (by
  have:(zv n1 a/((Nat.gcd (val a) (val b):Nat):Int)).natAbs<=(zv n1 a).natAbs:=Int.natAbs_ediv_le_natAbs _ _
  rw[EM]at this;exact this)
 have Br:0<((Nat.gcd (val a) (val b):Nat):Int):=by omega
 generalize ((Nat.gcd (val a) (val b):Nat):Int)=g at *;generalize zv n1 a=x at *;generalize zv n2 b=y at *;generalize n6 x=sx at *;generalize n6 y=sy at *;have hN:=λ q=>X8 N (decide (x/g<0)) q (dg (x/g).natAbs) (me.le (by omega))
 rw[ES]at hN;have Dx:decide (y/g<0)=decide (y<0):=by
  congr 1;rw[eq_iff_iff,Int.ediv_lt_iff_lt_mul (by omega),Int.zero_mul]
 refine Ev.x N.H3 rfl rfl ?_;(repeat' ((first|(apply AG<;>intro hc<;>try omega)|apply AE|refine AD (t1 _) ?_|refine AD (t2 _) ?_|refine AD (hG _ _) ?_|refine AD (El _ _) ?_|refine AD (As _ _) ?_)<;>conv=>whnf))
 cases Qp:decide (y/g<0)
 ·rw[Qp]at Dx
  rw[if_neg (of_decide_eq_false Dx.symm)]at p1;(conv=>whnf)
  skip
  refine AX ?_ (DJ _);show _=AV.agg (rQ _ _ _ _ _);rw[p1,p2]
 ·rw[Qp]at Dx
  rw[if_pos (of_decide_eq_true Dx.symm)]at p1;(conv=>whnf)
  (repeat' (refine AD (hN _) ?_<;>conv=>whnf))
  refine AX ?_ (DJ _);show _=AV.agg (rQ _ _ _ _ _);rw[p1,p2]
theorem Vf {z:Int} {d:List Nat}:Rat.divInt z (zv false d)=mkRat z (val d):=by rw[D9,Rat.divInt_ofNat]
def zW (n:Bool) (m d:List Nat) (n':Bool) (m' d':List Nat) (k:Nat):Prop:=Sm k m'/\Sm k d'/\val d'≠0/\qv n m d=mkRat (zv n' m') (val d')
theorem lA (n:Bool) (m d:List Nat):A2 (.e6 [.agg (rZ false n m),.agg (rZ false false d)]):=by
 simp only[A2,B8,and_true,true_and];exact ⟨B5 _,B5 _⟩
theorem KS (N:a5 L) (n q:Bool) (m d:List Nat) (k:Nat) (hk:1<=k/\k<=274877906943) (hm:Sm k m) (hd:Sm k d) : ∃ n' m' d',Ev L 122 [.agg (rQ false q n m d)] (.e6 [.agg (rZ false n' m'),.agg (rZ false false d')])/\zW n m d n' m' d' k:=by
 have t1:=λ q=>F5 N d q hd.1 (by have:=hd.2;omega)
 have hl:=HS (val d);by_cases h0:val d=0
 ·refine ⟨false,[],[1],?_,QE _,gT hk.1 (by omega),by decide,by unfold qv;rw[h0,Rat.mkRat_zero,xH,Rat.zero_mkRat]⟩
  refine Ev.x N.JM rfl rfl ?_;(repeat' ((first|(apply AG<;>intro hc<;>try omega)|apply AU|refine HM rfl ?_|apply AE|refine AD (t1 _) ?_)<;>conv=>whnf))
  exact AX rfl (lA false [] [1])
 ·refine ⟨n,m,dg (val d),?_,hm,hd.wo,by rw[BT];exact h0,by rw[BT];rfl⟩
  refine Ev.x N.JM rfl rfl ?_;(repeat' ((first|(apply AG<;>intro hc<;>try omega)|apply AU|apply AE|refine AD (t1 _) ?_)<;>conv=>whnf))
  exact AX rfl (lA _ _ _)
theorem oR (N:a5 L) (n q:Bool) (m d:List Nat) (hm:Sm 274877906943 m) (hd:Sm 274877906943 d) {q0:Bool}:Ev L 123 [.agg (rQ q0 q n m d)] (.agg (eQ (qv n m d))):=by
 obtain ⟨n',m',d',hp,s1,s2,s3,s4⟩:=KS N n false m d 274877906943 (by omega) hm hd;have hr:=λ q q'=>UY N n' false q q' m' d' s1 s2
 rw[Vf,<-s4]at hr;refine Ev.x N.NC rfl rfl ?_;(repeat' ((first|apply QN|apply AE|refine AD (hp) ?_|refine AD (hr _ _) ?_)<;>conv=>whnf))
 exact AX rfl (DJ _)
theorem Sq (z:Int):AV.agg [.bool (decide (z<0)),.sl false ((dg z.natAbs).map AL),.sl false [[.int .u32 1]]] = .agg (eQ (z:Rat)):=by
 show _=AV.agg (rQ _ _ _ _ _);rw[Rat.num_intCast,Rat.den_intCast,lZ];rfl
theorem UX (N:a5 L) (z:Int) (hz : -9223372036854775808<=z/\z<=9223372036854775807):Ev L 124 [.int .i64 z] (.agg (eQ (z:Rat))):=by
 have h1:=cS N z hz;refine Ev.x N.M9 rfl rfl ?_;(repeat' ((first|refine HM rfl ?_|apply AE|refine AD (h1) ?_)<;>conv=>whnf))
 exact AX (Sq z) (DJ _)
theorem uW {z:Int} (hz : -9223372036854775808<=z/\z<=9223372036854775808):Sm 2 (dg z.natAbs):=Sm.dg (by omega)
theorem cT (N:a5 L) (x y:Int) (hx : -9223372036854775808<=x/\x<=9223372036854775807) (hy : -9223372036854775808<=y/\y<=9223372036854775807):Ev L 125 [.int .i64 x,.int .i64 y] (.agg (eQ (Rat.divInt x y))):=by
 have h1:=cS N x hx;have h2:=cS N y hy;have hr:=λ q q'=>UY N (decide (x<0)) (decide (y<0)) q q' _ _ ((uW (z:=x) (by omega)).le (by omega)) ((uW (z:=y) (by omega)).le (by omega))
 rw[ES,ES]at hr;refine Ev.x N.M6 rfl rfl ?_;(repeat' ((first|apply AE|refine AD (h1) ?_|refine AD (h2) ?_|refine AD (hr _ _) ?_)<;>conv=>whnf))
 exact AX rfl (DJ _)
theorem PH {k l:Nat} {n1 n2:Bool} {a b:List Nat} (ha:Sm k a) (hb:Sm l b):Sm (k+l) (dg (zv n1 a*zv n2 b).natAbs):=ha.mul hb (by rw[Int.natAbs_mul,EM,EM])
theorem Ag3 {k:Nat} {x y:Int} (ha:Sm k (dg x.natAbs)) (hb:Sm k (dg y.natAbs)):Sm (k+1) (dg (x+y).natAbs):=ha.add hb (by rw[BT,BT];omega)
theorem oQ (N:a5 L) (k:Nat) (hk:1<=k/\k<=68719476736) (n1 n2 q2 q4:Bool) (m1 d1 m2 d2:List Nat) (gq:Sm k m1) (jv:Sm k d1) (dv:Sm k m2) (jx:Sm k d2) {q1 q3:Bool} :
  Ev L 126 [.agg (rQ q1 q2 n1 m1 d1),.agg (rQ q3 q4 n2 m2 d2)] (.agg (eQ (qv n1 m1 d1+qv n2 m2 d2))):=by
 obtain ⟨a1,a2,a3,w6,s1,s2,s3,s5⟩:=KS N n1 false m1 d1 k (by omega) gq jv;obtain ⟨b1,b2,b3,z7,t1,t2,t3,t5⟩:=KS N n2 false m2 d2 k (by omega) dv jx;have l1:=s1.2;have l2:=s2.2;have l3:=t1.2;have l4:=t2.2;rw[s5,t5,YP s3 t3,<-D9 b3,<-D9 a3];have bg:=λ q q'=>O1 N a1 false q q' a2 b3 s1.1 t2.1 (by omega)
 have y8:=λ q q'=>O1 N b1 false q q' b2 a3 t1.1 s2.1 (by omega)
 have rf:=λ q q'=>O1 N false false q q' a3 b3 s2.1 t2.1 (by omega)
 have g1:Sm (k+k) (dg (zv a1 a2*zv false b3).natAbs):=PH s1 t2;have g2:Sm (k+k) (dg (zv b1 b2*zv false a3).natAbs):=PH t1 s2;have g3:=Ag3 g1 g2;have g4:Sm (k+k) (dg (zv false a3*zv false b3).natAbs):=PH s2 t2;have hA:=λ q q'=>oN N (decide (zv a1 a2*zv false b3<0)) (decide (zv b1 b2*zv false a3<0)) q q' _ _ (g1.le (by omega)) (g2.le (by omega))
 rw[ES,ES]at hA;have hR:=λ q q'=>UY N (decide (zv a1 a2*zv false b3+zv b1 b2*zv false a3<0)) (decide (zv false a3*zv false b3<0)) q q' _ _ (g3.le (by omega)) (g4.le (by omega))
 rw[ES,ES,show zv false a3*zv false b3=((val a3*val b3:Nat):Int) by rw[D9,D9];simp,Rat.divInt_ofNat]at hR;rw[show zv false a3*zv false b3=((val a3*val b3:Nat):Int) by rw[D9,D9];simp]at rf;refine Ev.x N.M3 rfl rfl ?_;(repeat' ((first|apply QN|apply AE|refine AD (w6) ?_|refine AD (z7) ?_|refine AD (bg _ _) ?_|refine AD (y8 _ _) ?_|refine AD (hA _ _) ?_|refine AD (rf _ _) ?_|refine AD (hR _ _) ?_)<;>conv=>whnf))
 exact AX rfl (DJ _)
theorem cU (N:a5 L) (k:Nat) (hk:1<=k/\k<=68719476736) (n1 n2 q2 q4:Bool) (m1 d1 m2 d2:List Nat) (gq:Sm k m1) (jv:Sm k d1) (dv:Sm k m2) (jx:Sm k d2) {q1 q3:Bool} :
  Ev L 128 [.agg (rQ q1 q2 n1 m1 d1),.agg (rQ q3 q4 n2 m2 d2)] (.agg (eQ (qv n1 m1 d1*qv n2 m2 d2))):=by
 obtain ⟨a1,a2,a3,w6,s1,s2,s3,s5⟩:=KS N n1 false m1 d1 k (by omega) gq jv;obtain ⟨b1,b2,b3,z7,t1,t2,t3,t5⟩:=KS N n2 false m2 d2 k (by omega) dv jx;have l1:=s1.2;have l2:=s2.2;have l3:=t1.2;have l4:=t2.2;rw[s5,t5,eR];have bg:=λ q q'=>O1 N a1 b1 q q' a2 b2 s1.1 t1.1 (by omega)
 have rf:=λ q q'=>O1 N false false q q' a3 b3 s2.1 t2.1 (by omega)
 have g1:Sm (k+k) (dg (zv a1 a2*zv b1 b2).natAbs):=PH s1 t1;have g4:Sm (k+k) (dg (zv false a3*zv false b3).natAbs):=PH s2 t2;have hR:=λ q q'=>UY N (decide (zv a1 a2*zv b1 b2<0)) (decide (zv false a3*zv false b3<0)) q q' _ _ (g1.le (by omega)) (g4.le (by omega))
 rw[ES,ES,show zv false a3*zv false b3=((val a3*val b3:Nat):Int) by rw[D9,D9];simp,Rat.divInt_ofNat]at hR;rw[show zv false a3*zv false b3=((val a3*val b3:Nat):Int) by rw[D9,D9];simp]at rf;refine Ev.x N.M8 rfl rfl ?_;(repeat' ((first|apply QN|apply AE|refine AD (w6) ?_|refine AD (z7) ?_|refine AD (bg _ _) ?_|refine AD (rf _ _) ?_|refine AD (hR _ _) ?_)<;>conv=>whnf))
 exact AX rfl (DJ _)
theorem rS {a b:Int} {d e:Nat} (hd:d≠0) (he:e≠0):n6 (a*e-b*d)=n6 (mkRat a d-mkRat b e).num:=by
 have h:mkRat a d-mkRat b e=mkRat (a*e-b*d) (d*e):=by
  rw[Rat.sub_eq_add_neg,Rat.neg_mkRat,YP hd he,Int.neg_mul,<-Int.sub_eq_add_neg]
 rw[h,eU (Nat.mul_ne_zero hd he)]
theorem AdU (N:a5 L) (k:Nat) (hk:1<=k/\k<=68719476736) (n1 n2 q2 q4:Bool) (m1 d1 m2 d2:List Nat) (gq:Sm k m1) (jv:Sm k d1) (dv:Sm k m2) (jx:Sm k d2) {q1 q3:Bool} :
  Ev L 127 [.agg (rQ q1 q2 n1 m1 d1),.agg (rQ q3 q4 n2 m2 d2)] (.int .i64 (n6 (qv n1 m1 d1-qv n2 m2 d2).num)):=by
 obtain ⟨a1,a2,a3,w6,s1,s2,s3,s5⟩:=KS N n1 false m1 d1 k (by omega) gq jv;obtain ⟨b1,b2,b3,z7,t1,t2,t3,t5⟩:=KS N n2 false m2 d2 k (by omega) dv jx;have l1:=s1.2;have l2:=s2.2;have l3:=t1.2;have l4:=t2.2;rw[s5,t5,<-rS s3 t3,<-D9 b3,<-D9 a3];have bg:=λ q q'=>O1 N a1 false q q' a2 b3 s1.1 t2.1 (by omega)
 have y8:=λ q q'=>O1 N b1 false q q' b2 a3 t1.1 s2.1 (by omega)
 have g1:Sm (k+k) (dg (zv a1 a2*zv false b3).natAbs):=PH s1 t2;have g2:Sm (k+k) (dg (zv b1 b2*zv false a3).natAbs):=PH t1 s2;have hC:=λ q q'=>AdR N (decide (zv a1 a2*zv false b3<0)) (decide (zv b1 b2*zv false a3<0)) q q' _ _ (g1.le (by omega)) (g2.le (by omega))
 rw[ES,ES]at hC;refine Ev.x N.M4 rfl rfl ?_;(repeat' ((first|apply QN|apply AE|refine AD (w6) ?_|refine AD (z7) ?_|refine AD (bg _ _) ?_|refine AD (y8 _ _) ?_|refine AD (hC _ _) ?_)<;>conv=>whnf))
 exact C6 rfl
theorem Bt.fi {k:Nat} {x:Rat} (h:Bt k x) (hk:k<2199023255552):Sm 68719476736 (dg x.num.natAbs)/\Sm 68719476736 (dg x.den):=h.Ny (by omega)
theorem cJ (N:a5 L) {x y:Rat} {k l:Nat} (hx:Bt k x) (hy:Bt l y) (hk:k<2199023255552) (hl:l<2199023255552):Ev L 126 [.agg (eQ x),.agg (eQ y)] (.agg (eQ (x+y))):=by
 have:=oQ (q1:=false) (q3:=false) N 68719476736 (by omega) (decide (x.num<0)) (decide (y.num<0)) false false _ _ _ _ (hx.fi hk).1 (hx.fi hk).2 (hy.fi hl).1 (hy.fi hl).2
 rw[EG,EG]at this;exact this
theorem Adv (N:a5 L) {x y:Rat} {k l:Nat} (hx:Bt k x) (hy:Bt l y) (hk:k<2199023255552) (hl:l<2199023255552):Ev L 128 [.agg (eQ x),.agg (eQ y)] (.agg (eQ (x*y))):=by
 have:=cU (q1:=false) (q3:=false) N 68719476736 (by omega) (decide (x.num<0)) (decide (y.num<0)) false false _ _ _ _ (hx.fi hk).1 (hx.fi hk).2 (hy.fi hl).1 (hy.fi hl).2
 rw[EG,EG]at this;exact this
theorem oZ (N:a5 L) {x:Rat} {k:Nat} (hx:Bt k x) (hk:k<2199023255552):Ev L 123 [.agg (eQ x)] (.agg (eQ x)):=by
 have:=oR (q0:=false) N (decide (x.num<0)) false _ _ ((hx.fi hk).1.le (by omega)) ((hx.fi hk).2.le (by omega))
 rw[EG]at this;exact this
end Go.b8

namespace Go.b8
open F
attribute [local irreducible] AA AF AQ AC CI AW A5 A9 B4 B3 CE DE BX A3 BW CD AB A4 AJ pw BV BN CS CR C1 CY CT BL DD
set_option maxHeartbeats 1000000
variable {L:Lib}
def FQ (n:Int):Prop := -9223372036854775808<=n/\n<=9223372036854775807
structure Wd where
 b:Int
 f:Int
 r:Int
 o:Int
def WV (w:Wd):Prop:=4<=w.b/\w.b<=24/\0<=w.f/\w.f<w.b/\1<=w.r/\w.r<=3/\1<=w.o/\w.o<=2
instance (w : Wd) : Decidable (WV w) := by unfold WV; infer_instance
variable (w:Wd)
def Aft:Int:=if WV w then -pw (w.b-1) else 0
def AeN:Int:=if WV w then pw (w.b-1)-1 else 0
def FT (v:Int):Prop:=WV w/\Aft w<=v/\v<=AeN w
instance (v : Int) : Decidable (FT w v) := by unfold FT; infer_instance
end Go.b8

namespace Go.b8
open F
attribute [local irreducible] AA AF AQ AC CI AW A5 A9 B4 B3 CE DE BX A3 BW CD AB A4 AJ pw BV BN CS CR C1 CY CT BL DD
set_option maxHeartbeats 1000000
variable {L:Lib}
structure Nd where
 q:Bool
 ts:List (Int × Int)
structure Nt where
 d:Wd
 c:Wd
 s:Int
 qn:Bool
 nodes:List Nd
 qx:Bool
 next:List Int
 out:Int
variable (n:Nt)
end Go.b8

namespace Go.b8
open F
attribute [local irreducible] AA AF AQ AC CI AW A5 A9 B4 B3 CE DE BX A3 BW CD AB A4 AJ pw BV BN CS CR C1 CY CT BL DD
variable {L:Lib}
set_option maxHeartbeats 4000000
theorem oH (N:e7 L) {x:Rat} {k:Nat} (hx:Bt k x) (hk:k<2199023255552):Ev L 152 [.agg (eQ x)] (.agg (eQ (-x))):=by
 have hT:=oZ N.toa5 hx hk;have hN:=λ q=>X8 N.toa5 (decide (x.num<0)) q (dg x.num.natAbs) ((hx.fi hk).1.le (by omega))
 rw[ES]at hN;refine Ev.x N.JI rfl rfl ?_;(repeat' ((first|apply AE|refine AD (hT) ?_|refine AD (hN _) ?_)<;>conv=>whnf))
 refine AX ?_ (DJ _);show _=AV.agg (rQ _ _ _ _ _);rw[Rat.neg_num,Rat.neg_den]
theorem AfF {a c:Int} {b d:Nat} (hb:b≠0) (hd:d≠0) (hc:c≠0):mkRat a b/mkRat c d=Rat.divInt (a*d) (b*c):=by
 rw[Rat.div_def,<-Rat.divInt_ofNat,<-Rat.divInt_ofNat,Rat.inv_divInt,Rat.divInt_mul_divInt]
end Go.b8
