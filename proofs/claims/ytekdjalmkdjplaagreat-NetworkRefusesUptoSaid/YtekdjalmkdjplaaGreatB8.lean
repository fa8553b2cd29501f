/-
  Natural numbers (layer 1): sums, differences, products.
-/
import Derived.Test.YtekdjalmkdjplaaGreatB7
import Derived.Test.YtekdjalmkdjplaaGreatB2
import Derived.Test.YtekdjalmkdjplaaGreatB1
set_option linter.unusedSimpArgs false
set_option linter.unusedVariables false
set_option linter.unnecessarySimpa false
namespace Go.c8
open F
attribute [local irreducible] AA AF AX AB CQ AY BB A9 BS BR CX D9 BT A1 BP CK AC A5 AL pw C7 CE DM DF DP DU DY BQ DE
variable {L:Lib}
set_option maxHeartbeats 1000000
theorem VV {y:List Nat} {i:Nat} (h:y.length<=i):val (y.take (i+1))=val (y.take i):=by
 rw[CJ h,CJ (by omega)]
theorem vK (N:a9 L) (a b:List Nat) (q1 q2:Bool) (hA:AR a) (hB:AR b) (la:a.length<=1099511627775) (lb:b.length<=1099511627775):Ev L 68 [.sl q1 (a.map AJ),.sl q2 (b.map AJ)] (.sl false ((dg (val a+val b)).map AJ)):=by
 have l1:=DR hA;have l2:=DR hB;have d1:=C3 (val a);have d2:=C3 (val b);have v1:=BF (val a);have v2:=BF (val b);refine Ev.x N.JZ rfl rfl ?_;(repeat' ((first|(apply AH<;>intro hc<;>try omega)|(apply A2;omega)|apply AQ|apply AD|refine IJ (IY N a _ hA (by omega)) ?_|refine IJ (IY N b _ hB (by omega)) ?_)<;>conv=>whnf))
 ·generalize dg (val a)=y at *
  generalize dg (val b)=x at *;rw[<-v1,<-v2,Nat.add_comm (val y)];have hlen:y.length<=x.length:=by omega
  have zl:x.length<=1099511627775:=by omega
  clear v1 v2 hA hB la lb;refine DQ (enc:=AJ) 0 (x.length+1) rfl (by omega) (by omega) ?_;(conv=>whnf)
  (repeat' (apply AQ<;>conv=>whnf))
  refine E9 (λ i _ _=>x.length-i) (λ(i:Nat) (o:List Nat) (c:Nat)=>i<=x.length/\o.length=x.length+1/\AR o/\c<=1/\val (o.take i)+4294967296^i*c=val (x.take i)+val (y.take i)) (λ i o c=>[(8,.int .u64 (c:Int)),(29,.int .i64 i)]) (λ i o c=>[(26,26,.rw 1 (o.map AJ))]) 0 (List.replicate (x.length+1) 0) 0 ⟨by omega,by simp,HP _,by omega,by simp [val]⟩ ?_;intro i o c ⟨p1,p2,p3,p4,p5⟩ ih;by_cases hi:i<x.length
  ·(repeat' ((first|(apply AH<;>intro hc<;>try omega)|(apply BA;omega)|(apply E5;omega)|(apply BV;omega)|apply ET|apply AQ|(refine TF (by assumption) ?_ (λ e he hb => ?_);omega)|apply AD)<;>conv=>whnf))
   ·rename_i d hd _
    refine EA (by omega) ?_;(conv=>whnf)
    (repeat' ((first|(apply A2;omega)|apply EF)<;>conv=>whnf))
    refine BJ [] (by (conv=>whnf);exact ⟨rfl,rfl,rfl⟩) (ih (i+1) _ _ (by omega) ⟨by omega,by simpa using p2,p3.set _ (by omega),by omega,?_⟩);have h1:=C5 hd;have h2:=C5 he;have h3:=MK (val (o.take i)) (4294967296^i) (d+c+e);have h4:=E3 (v:=(d+c+e)%4294967296) (show i<o.length by omega);rw[h4,h1,h2,Nat.pow_succ];generalize 4294967296^i=p at *;rw[h3,Nat.mul_add,Nat.mul_add];omega
   ·refine EA (by omega) ?_
    (conv=>whnf)
    (repeat' ((first|(apply A2;omega)|apply EF)<;>conv=>whnf))
    refine BJ [] (by (conv=>whnf);exact ⟨rfl,rfl,rfl⟩) (ih (i+1) _ _ (by omega) ⟨by omega,by simpa using p2,p3.set _ (by omega),by omega,?_⟩);have h1:=C5 he;have h2:=VV (y:=y) (i:=i) (by omega);have h3:=MK (val (o.take i)) (4294967296^i) (e+c);have h4:=E3 (v:=(e+c)%4294967296) (show i<o.length by omega);rw[h4,h1,h2,Nat.pow_succ];generalize 4294967296^i=p at *;rw[h3,Nat.mul_add];omega
  ·obtain rfl:i=x.length:=by omega
   clear ih;(repeat' ((first|(apply AH<;>intro hc<;>try omega)|(apply BA;omega)|(apply DD;omega)|apply AQ|apply AD)<;>conv=>whnf))
   refine EA (by omega) ?_;(conv=>whnf)
   skip
   have hV:val (o.set x.length c)=val x+val y:=by
    have h4:=E3 (v:=c) (show x.length<o.length by omega);rw[zT (by simp;omega)]at h4;rw[h4,p5,CJ (Nat.le_refl _),CJ hlen]
   have hD:AR (o.set x.length c):=p3.set _ (by omega);have hL:(o.set x.length c).length=x.length+1:=by simpa using p2
   clear p3 p4 p5 p2;generalize o.set x.length c=O at *;rw[<-hL];refine FA 1000 N.EO rfl rfl ?_;(repeat' (apply AD<;>conv=>whnf))
   refine GF (λ n=>n) (λ(n:Nat)=>n<=(O).length /\ ∀ i,n<=i->i<(O).length->(O)[i]? = some 0) (λ n=>[(3,.int .i64 n)]) (λ_=>[]) [] [] (O).length (by first|exact (by (conv=>whnf);exact ⟨rfl,rfl,rfl⟩)|(simp only[List.length_set,List.length_replicate];exact (by (conv=>whnf);exact ⟨rfl,rfl,rfl⟩))) ⟨Nat.le_refl _,λ i h1 h2=>by omega⟩ ?_;intro n ⟨p1,p2⟩ ih;rcases n with _|n
   ·(repeat' ((first|(apply AH<;>intro hc<;>try omega)|apply AD)<;>conv=>whnf))
    refine FL 0 (by omega) (by omega) ?_;(conv=>whnf)
    refine ⟨rfl,_,rfl,?_⟩;(conv=>whnf)
    have hm:=p1;have w8:=FC (l:=O) (by assumption) p1 p2 (Or.inl rfl);clear ih p1 p2;(refine FV (enc:=AJ) (λ_=>rfl) (by omega) ?_;(conv=>whnf);exact AU (by rw[<-hV,<-w8];rfl) (by simp only[AZ,true_and];exact CR _))
   ·have e1:((n+1:Nat):Int)-1=n:=by omega
    (repeat' ((first|(apply AH<;>intro hc<;>try omega)|(apply BA;omega)|(apply BN;omega)|(refine N6 (by assumption) ?_ (λ v hv hb => ?_);omega)|apply AD)<;>conv=>whnf))
    ·rw[e1]
     exact B2 [] (ih n (by omega) ⟨by omega,λ i h1 h2=>by
      by_cases h:i=n
      ·subst h
       rw[e1,Int.toNat_natCast]at hv;rw[hv];congr 1;omega
      ·exact p2 i (by omega) h2⟩)
    ·refine FL (n+1) (by omega) (by omega) ?_
     (conv=>whnf)
     refine ⟨rfl,_,rfl,?_⟩;(conv=>whnf)
     rw[e1,Int.toNat_natCast]at hv;have hm:=p1;have w8:=FC (l:=O) (by assumption) p1 p2 (Or.inr ⟨_,hv,by omega⟩);clear ih p1 p2 hv;(refine FV (enc:=AJ) (λ_=>rfl) (by omega) ?_;(conv=>whnf);exact AU (by rw[<-hV,<-w8];rfl) (by simp only[AZ,true_and];exact CR _))
 ·generalize dg (val a)=x at *
  generalize dg (val b)=y at *;rw[<-v1,<-v2];have hlen:y.length<=x.length:=by omega
  have zl:x.length<=1099511627775:=by omega
  clear v1 v2 hA hB la lb;refine DQ (enc:=AJ) 0 (x.length+1) rfl (by omega) (by omega) ?_;(conv=>whnf)
  (repeat' (apply AQ<;>conv=>whnf))
  refine E9 (λ i _ _=>x.length-i) (λ(i:Nat) (o:List Nat) (c:Nat)=>i<=x.length/\o.length=x.length+1/\AR o/\c<=1/\val (o.take i)+4294967296^i*c=val (x.take i)+val (y.take i)) (λ i o c=>[(8,.int .u64 (c:Int)),(29,.int .i64 i)]) (λ i o c=>[(26,26,.rw 1 (o.map AJ))]) 0 (List.replicate (x.length+1) 0) 0 ⟨by omega,by simp,HP _,by omega,by simp [val]⟩ ?_;intro i o c ⟨p1,p2,p3,p4,p5⟩ ih;by_cases hi:i<x.length
  ·(repeat' ((first|(apply AH<;>intro hc<;>try omega)|(apply BA;omega)|(apply E5;omega)|(apply BV;omega)|apply ET|apply AQ|(refine TF (by assumption) ?_ (λ e he hb => ?_);omega)|apply AD)<;>conv=>whnf))
   ·rename_i d hd _
    refine EA (by omega) ?_;(conv=>whnf)
    (repeat' ((first|(apply A2;omega)|apply EF)<;>conv=>whnf))
    refine BJ [] (by (conv=>whnf);exact ⟨rfl,rfl,rfl⟩) (ih (i+1) _ _ (by omega) ⟨by omega,by simpa using p2,p3.set _ (by omega),by omega,?_⟩);have h1:=C5 hd;have h2:=C5 he;have h3:=MK (val (o.take i)) (4294967296^i) (d+c+e);have h4:=E3 (v:=(d+c+e)%4294967296) (show i<o.length by omega);rw[h4,h1,h2,Nat.pow_succ];generalize 4294967296^i=p at *;rw[h3,Nat.mul_add,Nat.mul_add];omega
   ·refine EA (by omega) ?_
    (conv=>whnf)
    (repeat' ((first|(apply A2;omega)|apply EF)<;>conv=>whnf))
    refine BJ [] (by (conv=>whnf);exact ⟨rfl,rfl,rfl⟩) (ih (i+1) _ _ (by omega) ⟨by omega,by simpa using p2,p3.set _ (by omega),by omega,?_⟩);have h1:=C5 he;have h2:=VV (y:=y) (i:=i) (by omega);have h3:=MK (val (o.take i)) (4294967296^i) (e+c);have h4:=E3 (v:=(e+c)%4294967296) (show i<o.length by omega);rw[h4,h1,h2,Nat.pow_succ];generalize 4294967296^i=p at *;rw[h3,Nat.mul_add];omega
  ·obtain rfl:i=x.length:=by omega
   clear ih;(repeat' ((first|(apply AH<;>intro hc<;>try omega)|(apply BA;omega)|(apply DD;omega)|apply AQ|apply AD)<;>conv=>whnf))
   refine EA (by omega) ?_;(conv=>whnf)
   skip
   have hV:val (o.set x.length c)=val x+val y:=by
    have h4:=E3 (v:=c) (show x.length<o.length by omega);rw[zT (by simp;omega)]at h4;rw[h4,p5,CJ (Nat.le_refl _),CJ hlen]
   have hD:AR (o.set x.length c):=p3.set _ (by omega);have hL:(o.set x.length c).length=x.length+1:=by simpa using p2
   clear p3 p4 p5 p2;generalize o.set x.length c=O at *;rw[<-hL];refine FA 1000 N.EO rfl rfl ?_;(repeat' (apply AD<;>conv=>whnf))
   refine GF (λ n=>n) (λ(n:Nat)=>n<=(O).length /\ ∀ i,n<=i->i<(O).length->(O)[i]? = some 0) (λ n=>[(3,.int .i64 n)]) (λ_=>[]) [] [] (O).length (by first|exact (by (conv=>whnf);exact ⟨rfl,rfl,rfl⟩)|(simp only[List.length_set,List.length_replicate];exact (by (conv=>whnf);exact ⟨rfl,rfl,rfl⟩))) ⟨Nat.le_refl _,λ i h1 h2=>by omega⟩ ?_;intro n ⟨p1,p2⟩ ih;rcases n with _|n
   ·(repeat' ((first|(apply AH<;>intro hc<;>try omega)|apply AD)<;>conv=>whnf))
    refine FL 0 (by omega) (by omega) ?_;(conv=>whnf)
    refine ⟨rfl,_,rfl,?_⟩;(conv=>whnf)
    have hm:=p1;have w8:=FC (l:=O) (by assumption) p1 p2 (Or.inl rfl);clear ih p1 p2;(refine FV (enc:=AJ) (λ_=>rfl) (by omega) ?_;(conv=>whnf);exact AU (by rw[<-hV,<-w8];rfl) (by simp only[AZ,true_and];exact CR _))
   ·have e1:((n+1:Nat):Int)-1=n:=by omega
    (repeat' ((first|(apply AH<;>intro hc<;>try omega)|(apply BA;omega)|(apply BN;omega)|(refine N6 (by assumption) ?_ (λ v hv hb => ?_);omega)|apply AD)<;>conv=>whnf))
    ·rw[e1]
     exact B2 [] (ih n (by omega) ⟨by omega,λ i h1 h2=>by
      by_cases h:i=n
      ·subst h
       rw[e1,Int.toNat_natCast]at hv;rw[hv];congr 1;omega
      ·exact p2 i (by omega) h2⟩)
    ·refine FL (n+1) (by omega) (by omega) ?_
     (conv=>whnf)
     refine ⟨rfl,_,rfl,?_⟩;(conv=>whnf)
     rw[e1,Int.toNat_natCast]at hv;have hm:=p1;have w8:=FC (l:=O) (by assumption) p1 p2 (Or.inr ⟨_,hv,by omega⟩);clear ih p1 p2 hv;(refine FV (enc:=AJ) (λ_=>rfl) (by omega) ?_;(conv=>whnf);exact AU (by rw[<-hV,<-w8];rfl) (by simp only[AZ,true_and];exact CR _))
theorem rC {a b:Int} (h:CM a b<=0):a<=b:=by
 unfold CM at h;split at h
 ·omega
 ·split at h<;>omega
theorem rD {a b:Int} (h:0<CM a b):b<a:=by
 unfold CM at h;split at h
 ·omega
 ·split at h<;>omega
theorem eP (N:a9 L) (a b:List Nat) (q1 q2:Bool) (hA:AR a) (hB:AR b) (la:a.length<=1099511627776) (lb:b.length<=1099511627776):Ev L 69 [.sl q1 (a.map AJ),.sl q2 (b.map AJ)] (.sl false ((dg (val a-val b)).map AJ)):=by
 have l1:=DR hA;have l2:=DR hB;have d1:=C3 (val a);have d2:=C3 (val b);have v1:=BF (val a);have v2:=BF (val b);refine Ev.x N.J3 rfl rfl ?_;(repeat' ((first|(apply AH<;>intro hc<;>try omega)|apply AQ|apply AD|refine AG (OR N a b _ _ hA hB la lb) ?_|refine IJ (IY N a _ hA la) ?_|refine IJ (IY N b _ hB lb) ?_)<;>conv=>whnf))
 ·have:=rC hc
  refine AU ?_ (by simp only[AZ,true_and];exact CR _);rw[show val a-val b=0 by omega,DZ];rfl
 ·have k6:=rD hc
  have pc:(dg (val b)).length<=(dg (val a)).length:=by
   rcases Nat.lt_or_ge (dg (val a)).length (dg (val b)).length with h|h
   ·have:=QZ h;omega
   ·exact h
  have mu:val b<val a:=by omega
  clear k6 hc;generalize dg (val a)=x at *;generalize dg (val b)=y at *;rw[<-v1,<-v2]at mu ⊢;clear v1 v2 hA hB lb;refine DQ (enc:=AJ) 0 x.length rfl rfl (by omega) ?_;(conv=>whnf)
  (repeat' (apply AQ<;>conv=>whnf))
  refine E9 (λ i _ _=>x.length-i) (λ(i:Nat) (o:List Nat) (c:Nat)=>i<=x.length/\o.length=x.length/\AR o/\c<=1/\val (o.take i)+val (y.take i)=val (x.take i)+4294967296^i*c) (λ i o c=>[(8,.int .u64 (c:Int)),(25,.int .i64 i)]) (λ i o c=>[(22,22,.rw 1 (o.map AJ))]) 0 (List.replicate x.length 0) 0 ⟨by omega,by simp,HP _,by omega,by simp [val]⟩ ?_;intro i o c ⟨p1,p2,p3,p4,p5⟩ ih;by_cases hi:i<x.length
  ·(repeat' ((first|(apply AH<;>intro hc<;>try omega)|(apply BA;omega)|(apply TE;omega)|(apply BV;omega)|apply ET|apply AQ|(refine TF (by assumption) ?_ (λ e he hb => ?_);omega)|apply AD)<;>conv=>whnf))
   ·rename_i d hd x5
    obtain ⟨s1,s2⟩:=Lw x5 hb p4;refine EA (by omega) ?_;(conv=>whnf)
    (repeat' ((first|(apply A2;omega)|apply TD)<;>conv=>whnf))
    generalize DI (DI d c) e=t at *;refine BJ [] (by (conv=>whnf);exact ⟨rfl,rfl,rfl⟩) (ih (i+1) _ _ (by omega) ⟨by omega,by simpa using p2,p3.set _ (by omega),s2,?_⟩);rw[E3 (by omega),C5 hd,C5 he,Nat.pow_succ];exact lI p5 s1
   ·obtain ⟨s1,s2⟩:=Lv hb p4
    refine EA (by omega) ?_;(conv=>whnf)
    (repeat' ((first|(apply A2;omega)|apply TD)<;>conv=>whnf))
    generalize DI e c=t at *;refine BJ [] (by (conv=>whnf);exact ⟨rfl,rfl,rfl⟩) (ih (i+1) _ _ (by omega) ⟨by omega,by simpa using p2,p3.set _ (by omega),s2,?_⟩);rw[E3 (by omega),C5 he,VV (by omega),Nat.pow_succ];rw[<-Nat.add_zero (t%4294967296)]at s1;have:=lI (e:=0) p5 s1
    rw[Nat.mul_zero,Nat.add_zero]at this;exact this
  ·obtain rfl:i=x.length:=by omega
   clear ih;have ct:c=0:=by
    rw[CJ (by omega),CJ pc,CJ (Nat.le_refl _)]at p5;have:=DX p3
    rw[p2]at this;rcases Nat.eq_zero_or_pos c with h|h
    ·exact h
    ·have:c=1:=by omega
     subst this;omega
   subst ct;have hV:val o=val x-val y:=by
    rw[CJ (by omega),CJ pc,CJ (Nat.le_refl _)]at p5;omega
   clear p5 p4;rw[<-p2];(repeat' ((first|(apply AH<;>intro hc<;>try omega)|apply AD)<;>conv=>whnf))
   refine FA 1000 N.EO rfl rfl ?_;(repeat' (apply AD<;>conv=>whnf))
   refine GF (λ n=>n) (λ(n:Nat)=>n<=(o).length /\ ∀ i,n<=i->i<(o).length->(o)[i]? = some 0) (λ n=>[(3,.int .i64 n)]) (λ_=>[]) [] [] (o).length (by first|exact (by (conv=>whnf);exact ⟨rfl,rfl,rfl⟩)|(simp only[List.length_set,List.length_replicate];exact (by (conv=>whnf);exact ⟨rfl,rfl,rfl⟩))) ⟨Nat.le_refl _,λ i h1 h2=>by omega⟩ ?_;intro n ⟨p1,p2⟩ ih;rcases n with _|n
   ·(repeat' ((first|(apply AH<;>intro hc<;>try omega)|apply AD)<;>conv=>whnf))
    refine FL 0 (by omega) (by omega) ?_;(conv=>whnf)
    refine ⟨rfl,_,rfl,?_⟩;(conv=>whnf)
    have hm:=p1;have w8:=FC (l:=o) (by assumption) p1 p2 (Or.inl rfl);clear ih p1 p2;(refine FV (enc:=AJ) (λ_=>rfl) (by omega) ?_;(conv=>whnf);exact AU (by rw[<-hV,<-w8];rfl) (by simp only[AZ,true_and];exact CR _))
   ·have e1:((n+1:Nat):Int)-1=n:=by omega
    (repeat' ((first|(apply AH<;>intro hc<;>try omega)|(apply BA;omega)|(apply BN;omega)|(refine N6 (by assumption) ?_ (λ v hv hb => ?_);omega)|apply AD)<;>conv=>whnf))
    ·rw[e1]
     exact B2 [] (ih n (by omega) ⟨by omega,λ i h1 h2=>by
      by_cases h:i=n
      ·subst h
       rw[e1,Int.toNat_natCast]at hv;rw[hv];congr 1;omega
      ·exact p2 i (by omega) h2⟩)
    ·refine FL (n+1) (by omega) (by omega) ?_
     (conv=>whnf)
     refine ⟨rfl,_,rfl,?_⟩;(conv=>whnf)
     rw[e1,Int.toNat_natCast]at hv;have hm:=p1;have w8:=FC (l:=o) (by assumption) p1 p2 (Or.inr ⟨_,hv,by omega⟩);clear ih p1 p2 hv;(refine FV (enc:=AJ) (λ_=>rfl) (by omega) ?_;(conv=>whnf);exact AU (by rw[<-hV,<-w8];rfl) (by simp only[AZ,true_and];exact CR _))
theorem XH (N:a9 L) (a b:List Nat) (q1 q2:Bool) (hA:AR a) (hB:AR b) (He:a.length+b.length<=1099511627776):Ev L 70 [.sl q1 (a.map AJ),.sl q2 (b.map AJ)] (.sl false ((dg (val a*val b)).map AJ)):=by
 have l1:=DR hA;have l2:=DR hB;have d1:=C3 (val a);have d2:=C3 (val b);have v1:=BF (val a);have v2:=BF (val b);refine Ev.x N.J2 rfl rfl ?_;have hz : ∀ p:Prop,((dg (val a)).length:Int)=0\/((dg (val b)).length:Int)=0->AL (.sl false []) (.sl false ((dg (val a*val b)).map AJ)):=λ_ h=>by
  have:val a*val b=0:=by
   rcases h with h|h
   ·have:dg (val a)=[]:=List.eq_nil_of_length_eq_zero (by omega)
    rw[W0.1 this,Nat.zero_mul]
   ·have:dg (val b)=[]:=List.eq_nil_of_length_eq_zero (by omega)
    rw[W0.1 this,Nat.mul_zero]
  exact AU (by rw[this,DZ];rfl) (by simp only[AZ,true_and];exact CR _)
 (repeat' ((first|(apply AH<;>intro hc<;>try omega)|(apply A2;omega)|apply AQ|apply AD|refine IJ (IY N a _ hA (by omega)) ?_|refine IJ (IY N b _ hB (by omega)) ?_)<;>conv=>whnf))
 ·exact hz True (Or.inl hc)
 ·exact hz True (Or.inr hc)
 ·clear hz
  generalize dg (val a)=x at *;generalize dg (val b)=y at *;rw[<-v1,<-v2];have gk:x.length+y.length<=1099511627776:=by omega
  clear v1 v2 hA hB He l1 l2;refine DQ (enc:=AJ) 0 (x.length+y.length) rfl (by omega) (by omega) ?_;(conv=>whnf)
  (repeat' (apply AQ<;>conv=>whnf))
  refine IH (λ i _=>x.length-i) (λ(i:Nat) (o:List Nat)=>i<=x.length/\o.length=x.length+y.length/\AR o/\val o=val (x.take i)*val y /\ ∀ k,i+y.length<=k->k<o.length->o[k]? = some 0) (λ i o=>[(34,.int .i64 i)]) (λ i o=>[(31,31,.rw 1 (o.map AJ))]) 0 (List.replicate (x.length+y.length) 0) ⟨by omega,by simp,HP _,by simp [val,VX],λ k h1 h2=>by simp at h2;simp [h2]⟩ ?_;intro i O ⟨p1,p2,p3,p4,p5⟩ ih;by_cases hi:i<x.length
  ·obtain ⟨d,hd⟩ : ∃ d,x[i]? = some d:=⟨_,zE hi⟩
   have x5:=d1.at hd;(repeat' ((first|(apply AH<;>intro hc<;>try omega)|(apply A2;omega)|apply AQ|(refine BH (by assumption) ?_ rfl ?_;omega)|apply AD)<;>conv=>whnf))
   ·refine BJ [] (by (conv=>whnf);exact ⟨rfl,rfl,rfl⟩) (ih (i+1) O (by omega) ⟨by omega,p2,p3,?_,λ k h1 h2=>p5 k (by omega) h2⟩)
    rw[C5 hd,p4,show d=0 by omega,Nat.mul_zero,Nat.add_zero]
   ·refine E9 (λ j _ _=>y.length-j) (λ(j:Nat) (o:List Nat) (c:Nat)=>j<=y.length/\o.length=x.length+y.length/\AR o/\c<4294967296/\val o+4294967296^(i+j)*c=val O+4294967296^i*(d*val (y.take j)) /\ ∀ k,i+j<=k->o[k]? = O[k]?) (λ j o c=>[(10,.int .u64 (c:Int)),(43,.int .i64 j)]) (λ j o c=>[(31,31,.rw 1 (o.map AJ))]) 0 O 0 ⟨by omega,p2,p3,by omega,by simp [val],λ_ _=>rfl⟩ ?_
    intro j o c ⟨r1,r2,r3,r4,r5,r6⟩ jh;have e1:((i:Int)+j).toNat=i+j:=by omega
    by_cases hj:j<y.length
    ·obtain ⟨w,hw⟩ : ∃ w,y[j]? = some w:=⟨_,zE hj⟩
     have Ep:=d2.at hw;have hm:=QI x5 Ep;(repeat' ((first|(apply AH<;>intro hc<;>try omega)|(apply BA;omega)|(apply A2;omega)|(apply E5;omega)|(apply MG;omega)|(apply BV;omega)|apply ET|(refine BH (by assumption) ?_ rfl ?_;omega)|(refine aO (by assumption) ?_ (λ v hv hb => ?_);omega)|apply AD)<;>conv=>whnf))
     refine TJ (i+j) (by omega) (by omega) ?_;(conv=>whnf)
     (repeat' ((first|(apply A2;omega)|apply EF)<;>conv=>whnf))
     refine BJ [] (by (conv=>whnf);exact ⟨rfl,rfl,rfl⟩) (jh (j+1) _ _ (by omega) ⟨by omega,by simpa using r2,r3.set _ (by omega),by omega,?_,?_⟩)
     ·have h1:=VU (v:=(d*w+v+c)%4294967296) hv
      have h2:=MK 0 (4294967296^(i+j)) (d*w+v+c);rw[C5 hw,show i+(j+1)=i+j+1 by omega,Nat.pow_succ (4294967296) (i+j)];have h3:4294967296^i*(d*(val (y.take j)+4294967296^j*w))=4294967296^i*(d*val (y.take j))+4294967296^(i+j)*(d*w):=by rw[Nat.pow_add];grind
      rw[h3];generalize 4294967296^(i+j)=P at *;rw[Nat.mul_add P,Nat.mul_add P]at h2;omega
     ·intro k hk
      rw[List.getElem?_set_ne (by omega)];exact r6 k (by omega)
    ·obtain rfl:j=y.length:=by omega
     clear jh;(repeat' ((first|(apply AH<;>intro hc<;>try omega)|(apply BA;omega)|(apply A2;omega)|(apply DD;omega)|apply AQ|apply AD)<;>conv=>whnf))
     have hz:=r6 (i+y.length) (by omega);rw[p5 (i+y.length) (by omega) (by omega)]at hz;refine TJ (i+y.length) (by omega) (by omega) ?_;(conv=>whnf)
     (repeat' ((first|(apply A2;omega)|fail)<;>conv=>whnf))
     refine BJ [] (by (conv=>whnf);exact ⟨rfl,rfl,rfl⟩) (ih (i+1) _ (by omega) ⟨by omega,by simpa using r2,r3.set _ (by omega),?_,?_⟩)
     ·have h1:=VU (v:=c) hz
      rw[Nat.mul_zero,Nat.add_zero]at h1;rw[h1,r5,p4,CJ (Nat.le_refl _),C5 hd,Nat.add_mul,Nat.mul_assoc]
     ·intro k h1 h2
      rw[List.length_set]at h2;rw[List.getElem?_set_ne (by omega),r6 k (by omega)];exact p5 k (by omega) (by omega)
  ·obtain rfl:i=x.length:=by omega
   clear ih;rw[CJ (Nat.le_refl _)]at p4;rw[<-p4,<-p2];(repeat' ((first|(apply AH<;>intro hc<;>try omega)|apply AD)<;>conv=>whnf))
   clear p5;refine FA 1000 N.EO rfl rfl ?_;(repeat' (apply AD<;>conv=>whnf))
   refine GF (λ n=>n) (λ(n:Nat)=>n<=(O).length /\ ∀ i,n<=i->i<(O).length->(O)[i]? = some 0) (λ n=>[(3,.int .i64 n)]) (λ_=>[]) [] [] (O).length (by first|exact (by (conv=>whnf);exact ⟨rfl,rfl,rfl⟩)|(simp only[List.length_set,List.length_replicate];exact (by (conv=>whnf);exact ⟨rfl,rfl,rfl⟩))) ⟨Nat.le_refl _,λ i h1 h2=>by omega⟩ ?_;intro n ⟨p1,p2⟩ ih;rcases n with _|n
   ·(repeat' ((first|(apply AH<;>intro hc<;>try omega)|apply AD)<;>conv=>whnf))
    refine FL 0 (by omega) (by omega) ?_;(conv=>whnf)
    refine ⟨rfl,_,rfl,?_⟩;(conv=>whnf)
    have hm:=p1;have w8:=FC (l:=O) (by assumption) p1 p2 (Or.inl rfl);clear ih p1 p2;(refine FV (enc:=AJ) (λ_=>rfl) (by omega) ?_;(conv=>whnf);exact AU (by rw[<-w8];rfl) (by simp only[AZ,true_and];exact CR _))
   ·have e1:((n+1:Nat):Int)-1=n:=by omega
    (repeat' ((first|(apply AH<;>intro hc<;>try omega)|(apply BA;omega)|(apply BN;omega)|(refine N6 (by assumption) ?_ (λ v hv hb => ?_);omega)|apply AD)<;>conv=>whnf))
    ·rw[e1]
     exact B2 [] (ih n (by omega) ⟨by omega,λ i h1 h2=>by
      by_cases h:i=n
      ·subst h
       rw[e1,Int.toNat_natCast]at hv;rw[hv];congr 1;omega
      ·exact p2 i (by omega) h2⟩)
    ·refine FL (n+1) (by omega) (by omega) ?_
     (conv=>whnf)
     refine ⟨rfl,_,rfl,?_⟩;(conv=>whnf)
     rw[e1,Int.toNat_natCast]at hv;have hm:=p1;have w8:=FC (l:=O) (by assumption) p1 p2 (Or.inr ⟨_,hv,by omega⟩);clear ih p1 p2 hv;(refine FV (enc:=AJ) (λ_=>rfl) (by omega) ?_;(conv=>whnf);exact AU (by rw[<-w8];rfl) (by simp only[AZ,true_and];exact CR _))
end Go.c8
namespace Go.c8
open F
section
variable {K:AV->Prop} {a b s:Nat} {k':IntKind}
theorem aT (hs:s<=32) (hk:K (.int .u32 ((M0 a s:Nat):Int))):AB .shl .u32 (a:Int) k' (s:Int) K:=by
 refine V7 (show s<=IntKind.u32.bits from hs) ?_;rw[wrap_u32,<-ZM];exact hk
theorem MJ (hs:s<=64) (h:a*2^s<=18446744073709551615) (hk:K (.int .u64 ((a*2^s:Nat):Int))):AB .shl .u64 (a:Int) k' (s:Int) K:=by
 refine V7 (show s<=IntKind.u64.bits from hs) ?_;rw[IntWalk.u64_in _ (by omega)];exact hk
theorem V8 (n:Nat) (hx:a%2^n=0) (hy:b<2^n) (h:a+b<=4294967295) (hk:K (.int .u32 ((a+b:Nat):Int))):AB .or .u32 (a:Int) .u32 (b:Int) K :=
 V6 n hx hy (show a+b<4294967296 by omega) (IntWalk.u32_in _ (by omega)) hk
theorem oF (n:Nat) (hx:b%2^n=0) (hy:a<2^n) (h:a+b<=4294967295) (hk:K (.int .u32 ((a+b:Nat):Int))):AB .or .u32 (a:Int) .u32 (b:Int) K:=by
 have e:CD .or .u32 (a:Int) .u32 (b:Int)=CD .or .u32 (b:Int) .u32 (a:Int):=by
  simp only[CD,if_true,BitVec.or_comm]
 rw[Nat.add_comm]at hk h;obtain ⟨v,h1,h2⟩:=V8 (K:=K) n hx hy h hk;exact ⟨v,by rw[e];exact h1,h2⟩
theorem oH (hs:s<=32) (hk:K (.int .u32 ((a/2^s:Nat):Int))):AB .shr .u32 (a:Int) k' (s:Int) K:=MI (show s<=IntKind.u32.bits from hs) hk
end
attribute [local irreducible] AA AF AX AB CQ AY BB A9 BS BR CX D9 BT A1 BP CK AC A5 AL pw C7 CE DM DF DP DU DY BQ DE
set_option maxHeartbeats 1000000
variable {L:Lib}
def V5 (a:List Nat) (s:Nat) (o:List Nat):Prop:=AR o/\(a.length<=o.length/\o.length<=a.length+1)/\(val a*2^s<4294967296^o.length->val o=val a*2^s)
theorem zH {a o:List Nat} {s lo:Nat} (hD:AR o) (hl:o.length=a.length) (h:val (o.take a.length)+4294967296^a.length*lo=val (a.take a.length)*2^s):V5 a s o:=by
 refine ⟨hD,by omega,λ k6 => ?_⟩;rw[CJ (by omega),CJ (Nat.le_refl _)]at h;rw[hl]at k6;have:lo=0:=by
  rcases Nat.eq_zero_or_pos lo with h0|h0
  ·exact h0
  ·have:4294967296^a.length*1<=4294967296^a.length*lo:=Nat.mul_le_mul_left _ h0
   omega
 subst this;omega
theorem iH {a o:List Nat} {s lo:Nat} (hD:AR o) (gx:lo<4294967296) (hl:o.length=a.length+1) (h:val (o.take a.length)+4294967296^a.length*lo=val (a.take a.length)*2^s):V5 a s (o.set a.length lo):=by
 refine ⟨hD.set _ gx,by simp;omega,λ_ => ?_⟩;have h1:=E3 (v:=lo) (show a.length<o.length by omega);rw[CJ (by simp;omega),h,CJ (Nat.le_refl _)]at h1;exact h1
theorem vP (N:a9 L) (a:List Nat) (q:Bool) (s n:Nat) (hA:AR a) (hs:s<=31) (hn:a.length<=n/\n<=a.length+1) (la:a.length<=1099511627776) : ∃ r,Ev L 71 [.sl q (a.map AJ),.int .u64 (s:Int),.int .i64 (n:Int)] r /\ ∃ o,V5 a s o/\o.length=n/\r = .sl false (o.map AJ):=by
 refine Ev.xE N.H7 rfl rfl ?_;(repeat' (apply AD<;>conv=>whnf))
 refine DQ (enc:=AJ) 0 n rfl rfl (by omega) ?_;(conv=>whnf)
 (repeat' (apply AQ<;>conv=>whnf))
 refine E9 (λ i _ _=>a.length-i) (λ(i:Nat) (o:List Nat) (lo:Nat)=>i<=a.length/\o.length=n/\AR o/\lo<2^s/\val (o.take i)+4294967296^i*lo=val (a.take i)*2^s) (λ i o lo=>[(8,.int .u32 (lo:Int)),(15,.int .i64 i)]) (λ i o lo=>[(71012,71012,.rw 1 (o.map AJ))]) 0 (List.replicate n 0) 0 ⟨by omega,by simp,HP _,Nat.two_pow_pos s,by simp [val]⟩ ?_;intro i o lo ⟨p1,p2,p3,p4,p5⟩ ih;have lj:=SF (s:=s) (by omega);by_cases hi:i<a.length
 ·obtain ⟨d,hd⟩ : ∃ d,a[i]? = some d:=⟨_,zE hi⟩
  have x5:=hA.at hd;obtain ⟨f1,f2,f3,f4⟩:=PD (s:=s) x5 (by omega);(repeat' ((first|(apply AH<;>intro hc<;>try omega)|(refine BH (by assumption) ?_ rfl ?_;omega)|apply AD)<;>conv=>whnf))
  refine aT (by omega) ?_;(conv=>whnf)
  skip
  refine V8 s f1 p4 (by omega) ?_;(conv=>whnf)
  (repeat' ((first|(apply BA;omega)|fail)<;>conv=>whnf))
  refine EA (by omega) ?_;(conv=>whnf)
  (repeat' ((first|(apply BV;omega)|fail)<;>conv=>whnf))
  refine MJ (by omega) f4 ?_;(conv=>whnf)
  (repeat' ((first|(apply A2;omega)|apply EF|(apply DD;omega))<;>conv=>whnf))
  rw[<-PC];refine BJ [] (by (conv=>whnf);exact ⟨rfl,rfl,rfl⟩) (ih (i+1) _ _ (by omega) ⟨by omega,by simpa using p2,p3.set _ (by omega),f2,?_⟩);rw[E3 (by omega),C5 hd,Nat.pow_succ];exact iI p5
 ·obtain rfl:i=a.length:=by omega
  clear ih;(repeat' ((first|(apply AH<;>intro hc<;>try omega)|(apply BA;omega)|apply AQ|apply AD)<;>conv=>whnf))
  ·refine EA (by omega) ?_
   (conv=>whnf)
   skip
   refine ⟨_,?_,_,iH p3 (by omega) (by omega) p5,by simpa using p2,rfl⟩;(conv=>whnf)
   refine C8 (enc:=AJ) (λ_=>rfl) rfl (by simp [p2]) ?_;(conv=>whnf)
   exact AU rfl (by simp only[AZ,true_and];exact CR _)
  ·refine ⟨_,?_,_,zH p3 (by omega) p5,p2,rfl⟩
   (conv=>whnf)
   refine C8 (enc:=AJ) (λ_=>rfl) rfl (by simp [p2]) ?_;(conv=>whnf)
   exact AU rfl (by simp only[AZ,true_and];exact CR _)
theorem vQ (N:a9 L) (a:List Nat) (q:Bool) (s:Nat) (hA:AR a) (hs:s<=31) (la:a.length<=1099511627776) : ∃ r,Ev L 72 [.sl q (a.map AJ),.int .u64 (s:Int)] r /\ ∃ o,AR o/\o.length=a.length/\val o=val a/2^s/\r = .sl false (o.map AJ):=by
 refine Ev.xE N.J9 rfl rfl ?_;(repeat' ((first|apply AQ|apply AD)<;>conv=>whnf))
 refine DQ (enc:=AJ) 0 a.length rfl rfl (by omega) ?_;(conv=>whnf)
 (repeat' ((first|(apply BN;omega)|apply AQ)<;>conv=>whnf))
 refine E9 (λ n _ _=>n) (λ(n:Nat) (o:List Nat) (hi:Nat)=>n<=a.length/\o.length=a.length/\AR o/\hi=val (a.drop n)%2^s*2^(32-s)/\val (o.drop n)=val (a.drop n)/2^s) (λ n o hi=>[(6,.int .u32 (hi:Int)),(7,.int .i64 ((n:Int)-1))]) (λ n o hi=>[(10,10,.rw 1 (o.map AJ))]) a.length (List.replicate a.length 0) 0 ⟨by omega,by simp,HP _,by rw[List.drop_of_length_le (Nat.le_refl _)];simp [val],by rw[List.drop_of_length_le (Nat.le_refl _),List.drop_of_length_le (by simp)];simp [val]⟩ ?_;intro n o hi ⟨p1,p2,p3,p4,p5⟩ ih;rcases n with _|n
 ·(repeat' ((first|(apply AH<;>intro hc<;>try omega)|apply AD)<;>conv=>whnf))
  rw[List.drop_zero,List.drop_zero]at p5;refine ⟨_,?_,_,p3,p2,p5,rfl⟩;(conv=>whnf)
  refine C8 (enc:=AJ) (λ_=>rfl) rfl p2.symm ?_;(conv=>whnf)
  exact AU rfl (by simp only[AZ,true_and];exact CR _)
 ·have e1:((n+1:Nat):Int)-1=n:=by omega
  rw[e1];obtain ⟨d,hd⟩ : ∃ d,a[n]? = some d:=⟨_,zE (by omega)⟩;have x5:=hA.at hd;obtain ⟨f1,f2,f3⟩:=iM (V:=val (a.drop (n+1))) x5 (show s<=32 by omega);obtain ⟨g1,g2,g3,g4⟩:=PD x5 (show 32-s<=32 by omega);rw[<-p4]at f2 f3;(repeat' ((first|(apply AH<;>intro hc<;>try omega)|(refine BH (by assumption) ?_ rfl ?_;omega)|apply AD)<;>conv=>whnf))
  refine oH (by omega) ?_;(conv=>whnf)
  skip
  refine oF (32-s) f2 f1 (by omega) ?_;(conv=>whnf)
  (repeat' ((first|(apply BA;omega)|fail)<;>conv=>whnf))
  refine EA (by omega) ?_;(conv=>whnf)
  (repeat' ((first|(apply TE;omega)|(apply BV;omega)|(refine BH (by assumption) ?_ rfl ?_;omega))<;>conv=>whnf))
  rw[show DI 32 s=32-s by rw[PM];omega];refine MJ (by omega) g4 ?_;(conv=>whnf)
  (repeat' ((first|(apply BN;omega)|apply ET)<;>conv=>whnf))
  rw[zO (by omega)];refine BJ [] (by (conv=>whnf);exact ⟨rfl,rfl,rfl⟩) (ih n _ _ (by omega) ⟨by omega,by simpa using p2,p3.set _ (by omega),?_,?_⟩)
  ·rw[F3 hd,iN (by omega)]
  ·rw[F3 (l:=o.set n (d/2^s+hi)) (d:=d/2^s+hi) (by rw[List.getElem?_set_self (by omega)]),List.drop_set_of_lt (by omega),p5,F3 hd,YJ (by omega),<-p4]
theorem UO : ∀ n<256,(List.replicate 1 0++List.replicate 1 1++List.replicate 2 2++List.replicate 4 3++List.replicate 8 4++List.replicate 16 5++List.replicate 32 6++List.replicate 64 7++List.replicate 128 8)[n]? = some (l9 n):=by decide +kernel
theorem uS (N:a9 L) (x:Nat) (hx:x<4294967296):Ev L 63 [.int .u32 (x:Int)] (.int .i64 (l9 x:Int)):=by
 have jm : ∀ y<256,l9 y<=8:=λ y h=>TL (k:=8) h
 refine Ev.x N.JX rfl rfl ?_;(repeat' ((first|(apply AH<;>intro hc<;>try omega)|(apply A2;omega)|apply oC|apply oE|(apply nU;omega)|apply AD)<;>conv=>whnf))
 ·have Cg:=jm (x/65536/256) (by omega)
  refine TK (UO _ (by omega)) ?_;(conv=>whnf)
  (repeat' ((first|(apply A2;omega)|(apply N0;omega))<;>conv=>whnf))
  have h1:l9 (x/65536)+16=l9 x:=RF 16 (x:=x) (by omega);have h2:l9 (x/65536/256)+8=l9 (x/65536):=RF 8 (x:=x/65536) (by omega);refine B9 ?_;rw[<-h1,<-h2];omega
 ·have Cg:=jm (x/65536) (by omega)
  refine TK (UO _ (by omega)) ?_;(conv=>whnf)
  (repeat' ((first|(apply A2;omega)|(apply N0;omega))<;>conv=>whnf))
  have h1:l9 (x/65536)+16=l9 x:=RF 16 (x:=x) (by omega);refine B9 ?_;rw[<-h1];omega
 ·have Cg:=jm (x/256) (by omega)
  refine TK (UO _ (by omega)) ?_;(conv=>whnf)
  (repeat' ((first|(apply A2;omega)|(apply N0;omega))<;>conv=>whnf))
  have h2:l9 (x/256)+8=l9 x:=RF 8 (x:=x) (by omega);refine B9 ?_;rw[<-h2];omega
 ·have Cg:=jm (x) (by omega)
  refine TK (UO _ (by omega)) ?_;(conv=>whnf)
  (repeat' ((first|(apply A2;omega)|(apply N0;omega))<;>conv=>whnf))
  refine B9 ?_;omega
theorem eC (N:a9 L) (x:Nat) (hx:x<4294967296):Ev L 64 [.int .u32 (x:Int)] (.int .i64 ((32-l9 x:Nat):Int)):=by
 have h:=TL (k:=32) hx;refine Ev.x N.JW rfl rfl ?_;(repeat' ((first|(apply BN;omega)|apply AD|refine AG (uS N x hx) ?_)<;>conv=>whnf))
 refine B9 ?_;omega
end Go.c8

namespace Go.c8
open F
theorem uL {L:Lib} {f:Nat} {fn:AFn} {vs:List AV} {own j7:AE} {r:AV} (hL:L f=some fn) (yq:GU fn.body=true) (h:FM L f vs own r j7):j7=own:=by
 obtain ⟨n,h⟩:=h;cases n with
 | zero=>simp [CN]at h
 | succ n =>
  rw[RR]at h;simp only[hL]at h;split at h
  ·split at h
   ·rename_i st g8
    split at h
    ·simp only[Option.some.injEq,Prod.mk.injEq]at h
     rw[<-h.2];exact HI n (by simp [MP,yq]) g8
    ·cases h
   ·cases h
  ·cases h
attribute [local irreducible] AA AF AX AB CQ AY BB A9 BS BR CX D9 BT A1 BP CK AC A5 AL pw C7 CE DM DF DP DU DY BQ DE
set_option maxHeartbeats 1000000
variable {L:Lib}
theorem rH (N:a9 L) (l:List Nat) (s:Nat) (hD:AR l) (hl:l.length<=1099511627776):A5 L 65 [.row 5 0 1 0 l.length] [(0,.row 5 0 1 0 l.length)] [(5,s,.rw 1 (l.map AJ))] (λ r _=>r = .row 5 0 1 0 (dg (val l)).length):=by
 have hlen : ∀ n,n<=l.length->l.take n=dg (val l)->n=(dg (val l)).length:=λ n h1 h2=>by
  rw[<-h2,List.length_take];omega
 refine FA 1000 N.EO rfl rfl ?_;(repeat' (apply AD<;>conv=>whnf))
 refine DL (λ n=>n) (λ(n:Nat)=>n<=l.length /\ ∀ i,n<=i->i<l.length->l[i]? = some 0) (λ n=>[(3,.int .i64 n)]) (λ_=>[]) l.length ⟨Nat.le_refl _,λ i h1 h2=>by omega⟩ ?_;intro n ⟨p1,p2⟩ ih;rcases n with _|n
 ·(repeat' ((first|(apply AH<;>intro hc<;>try omega)|apply AD)<;>conv=>whnf))
  refine FL 0 (by omega) (by omega) ?_;(conv=>whnf)
  refine ⟨rfl,_,rfl,?_⟩;rw[<-hlen 0 p1 (FC hD p1 p2 (Or.inl rfl))];rfl
 ·have e1:((n+1:Nat):Int)-1=n:=by omega
  (repeat' ((first|(apply AH<;>intro hc<;>try omega)|(apply BA;omega)|(apply BN;omega)|(refine N6 (by assumption) ?_ (λ v hv hb => ?_);omega)|apply AD)<;>conv=>whnf))
  ·rw[e1]
   exact B2 [] (ih n (by omega) ⟨by omega,λ i h1 h2=>by
    by_cases h:i=n
    ·subst h
     rw[e1,Int.toNat_natCast]at hv;rw[hv];congr 1;omega
    ·exact p2 i (by omega) h2⟩)
  ·refine FL (n+1) (by omega) (by omega) ?_
   (conv=>whnf)
   refine ⟨rfl,_,rfl,?_⟩;rw[e1,Int.toNat_natCast]at hv;rw[<-hlen (n+1) p1 (FC hD p1 p2 (Or.inr ⟨_,hv,by omega⟩))];rfl
theorem rG (N:a9 L) (l:List Nat) (s t:Nat) (own:AE) (hD:AR l) (hl:l.length<=1099511627776) (hb:(own s).c7 t=some ⟨1,l.map AJ⟩) (ht:t<(own s).c9) (gx:D5 s=true):FM L 65 [.row s t 1 0 l.length] own (.row s t 1 0 (dg (val l)).length) own:=by
 have hs:GH (λ_ _=>(s,t)) own [(5,s,.rw 1 (l.map AJ))]:=by
  have key : ∀ k u c,b7 [(5,s,A4.rw 1 (l.map AJ))] k u=some c->k=5/\u=0/\c = .rw 1 (l.map AJ):=λ k u c e=>by
   simp only[b7,b8]at e;cases hk:Nat.beq k 5<;>simp only[hk,cond_true,cond_false]at e
   ·cases e
   ·cases u with
    | zero=>simp only[Option.some.injEq]at e;exact ⟨Nat.eq_of_beq_eq_true hk,rfl,e.symm⟩
    | succ u=>cases e
  refine ⟨λ k s' c e => ?_,λ k u c e => ?_,λ k u c e=>ht,λ k u k' u' c c' e e' _ => ?_,λ_ _ _ _ _=>gx⟩
  ·simp only[b8]at e
   cases hk:Nat.beq k 5<;>simp only[hk,cond_true,cond_false]at e
   ·cases e
   ·simp only[Option.some.injEq,Prod.mk.injEq]at e;exact e.1
  ·obtain ⟨_,_,rfl⟩:=key k u c e
   exact hb
  ·obtain ⟨rfl,rfl,_⟩:=key k u c e
   obtain ⟨rfl,rfl,_⟩:=key k' u' c' e';exact ⟨rfl,rfl⟩
 have hw:=rH N l s hD hl;unfold A5 at hw;obtain ⟨r,j7,σ',M',h1,h2,h3,rfl⟩:=hw _ own hs;have ho:=uL N.EO (by decide +kernel) h1;subst ho;have h4:AV.row (σ' 5 0).1 (σ' 5 0).2 1 0 l.length=AV.row s t 1 0 l.length:=h3 0;simp only[AV.row.injEq]at h4;have h5:FM L 65 [.row s t 1 0 l.length] j7 (.row (σ' 5 0).1 (σ' 5 0).2 1 0 (dg (val l)).length) j7:=h1;rw[h4.1,h4.2.1]at h5;exact h5
theorem S5 (N:a9 L) {l:List Nat} {tm:Tm} {M:Mem} {K:AV->Mem->Prop} {key s len:Nat} (hD:AR l) (hl:l.length<=1099511627776) (hm:b8 M key=some (s,.rw 1 (l.map AJ))) (hlen:len=l.length) (hk:K (.row key 0 1 0 (dg (val l)).length) M):A5 L 65 [.row key 0 1 0 len] tm M K:=by
 subst hlen;unfold A5;intro σ own hs;have ay:=hs.site _ _ _ hm;have yo:b7 M key 0=some (.rw 1 (l.map AJ)):=by simp only[b7,hm]
 have hb:=hs.c7 _ _ _ yo;have ht:=hs.old _ _ _ yo;refine ⟨.row key 0 1 0 (dg (val l)).length,own,σ,M,?_,hs,λ_=>rfl,hk⟩;exact rG N l (σ key 0).1 (σ key 0).2 own hD hl hb ht (hs.low _ _ _ (D6 hm) rfl)
end Go.c8

namespace Go.c8
open F
attribute [local irreducible] AA AF AX AB CQ AY BB A9 BS BR CX D9 BT A1 BP CK AC A5 AL pw C7 CE DM DF DP DU DY BQ DE
set_option maxHeartbeats 1000000
variable {L:Lib}
def IL (n:Int):Prop := -9223372036854775808<=n/\n<=9223372036854775807
structure Wd where
 b:Int
 f:Int
 r:Int
 o:Int
abbrev P3 (w:Wd):List AV:=[.int .i64 w.b,.int .i64 w.f,.int .i64 w.r,.int .i64 w.o]
theorem UF (I:j8 L) (r:Int):Ev L 1 [.int .i64 r] (.bool (decide (1<=r/\r<=3))):=by
 refine Ev.x I.JL rfl rfl ?_;(repeat' ((first|(apply AH<;>intro hc<;>try omega)|apply AD)<;>conv=>whnf))
 all_goals (first|exact Q3 (by omega)|exact N3 (by omega))
def WV (w:Wd):Prop:=4<=w.b/\w.b<=24/\0<=w.f/\w.f<w.b/\1<=w.r/\w.r<=3/\1<=w.o/\w.o<=2
instance (w : Wd) : Decidable (WV w) := by unfold WV; infer_instance
variable (w:Wd)
theorem RU (I:j8 L):Ev L 2 [.agg (P3 w)] (.bool (decide (WV w))):=by
 refine Ev.x I.JJ rfl rfl ?_;(repeat' ((first|(apply AH<;>intro hc<;>try omega)|apply AD|refine GR (UF I _) (λ hf => ?_) (λ hf => ?_))<;>conv=>whnf))
 all_goals (unfold WV;first|exact Q3 (by omega)|exact N3 (by omega))
def R7:Int:=if WV w then -pw (w.b-1) else 0
def R4:Int:=if WV w then pw (w.b-1)-1 else 0
theorem eI (I:j8 L):Ev L 3 [.agg (P3 w)] (.int .i64 (R7 w)):=by
 refine Ev.x I.JF rfl rfl ?_;by_cases hv:WV w;all_goals (
  have dk:=hv;unfold WV at dk;(repeat' ((first|(apply BN;omega)|(refine Q9 ?_ (λ_ _ => ?_);omega)|apply aX|(apply CQ.neg;omega)|apply AD|refine GR (RU _ I) (λ hf => ?_) (λ hf => ?_))<;>conv=>whnf))
  all_goals (first|contradiction|exact B9 (by rw[R7,if_pos hv])|exact B9 (by rw[R7,if_neg hv])))
theorem eH (I:j8 L):Ev L 4 [.agg (P3 w)] (.int .i64 (R4 w)):=by
 refine Ev.x I.JE rfl rfl ?_;by_cases hv:WV w;all_goals (
  have dk:=hv;unfold WV at dk;(repeat' ((first|(apply BN;omega)|(refine Q9 ?_ (λ_ _ => ?_);omega)|apply aX|apply AD|refine GR (RU _ I) (λ hf => ?_) (λ hf => ?_))<;>conv=>whnf))
  all_goals (first|contradiction|exact B9 (by rw[R4,if_pos hv])|exact B9 (by rw[R4,if_neg hv])))
def FT (v:Int):Prop:=WV w/\R7 w<=v/\v<=R4 w
instance (v : Int) : Decidable (FT w v) := by unfold FT; infer_instance
theorem UE (I:j8 L) (v:Int):Ev L 5 [.agg (P3 w),.int .i64 v] (.bool (decide (FT w v))):=by
 refine Ev.x I.JD rfl rfl ?_;(repeat' ((first|(apply AH<;>intro hc<;>try omega)|apply AD|refine GR (RU _ I) (λ hf => ?_) (λ hf => ?_)|refine AG (eI _ I) ?_|refine AG (eH _ I) ?_)<;>conv=>whnf))
 all_goals (unfold FT;first|exact Q3 ⟨by assumption,by assumption,by assumption⟩|exact N3 (by rintro ⟨h1,h2,h3⟩;first|contradiction|omega))
def aE (n v:Int):Int:=if 1<=n/\n<=62 then (if pw (n-1)<=v%pw n then v%pw n-pw n else v%pw n) else 0
theorem vA (I:j8 L) (n v:Int):Ev L 7 [.int .i64 n,.int .i64 v] (.int .i64 (aE n v)):=by
 refine Ev.x I.JK rfl rfl ?_;(repeat' ((first|(apply AH<;>intro hc<;>try omega)|(apply BN;omega)|(refine Q9 ?_ (λ_ _ => ?_);omega)|(refine aP ?_ (λ_ _ => ?_);omega)|apply AD)<;>conv=>whnf))
 all_goals (refine B9 ?_;unfold aE;first|rw[if_neg (by omega)]|rw[if_pos (by omega),if_pos (by omega)]|rw[if_pos (by omega),if_neg (by omega)])
def ZL (v:Int):Int:=min (max v (R7 w)) (R4 w)
theorem uY (I:j8 L) (v:Int):Ev L 8 [.agg (P3 w),.int .i64 v] (.int .i64 (ZL w v)):=by
 refine Ev.x I.JH rfl rfl ?_;(repeat' ((first|(apply AH<;>intro hc<;>try omega)|apply AD|refine AG (eI _ I) ?_|refine AG (eH _ I) ?_)<;>conv=>whnf))
 all_goals (refine B9 ?_;unfold ZL;omega)
def ZA (v:Int):Int:=if WV w then (if w.o=2 then aE w.b v else ZL w v) else 0
theorem uX (I:j8 L) (v:Int):Ev L 9 [.agg (P3 w),.int .i64 v] (.int .i64 (ZA w v)):=by
 refine Ev.x I.JG rfl rfl ?_;(repeat' ((first|(apply AH<;>intro hc<;>try omega)|apply AD|refine GR (RU _ I) (λ hf => ?_) (λ hf => ?_)|refine AG (vA I _ _) ?_|refine AG (uY _ I _) ?_)<;>conv=>whnf))
 all_goals (refine B9 ?_;unfold ZA;first|rw[if_neg (by assumption)]|rw[if_pos (by assumption),if_pos (by assumption)]|rw[if_pos (by assumption),if_neg (by assumption)])
def QT (v n r:Int):Int :=
 if 0<=n/\n<=62/\1<=r/\r<=3 then
  (if n=0 then v
   else if (r=2/\pw (n-1)<=v%pw n)\/(r=3/\v<0/\v%pw n≠0) then v/pw n+1 else v/pw n)
 else 0
theorem uZ (I:j8 L) (v n r:Int) (hv:IL v):Ev L 6 [.int .i64 v,.int .i64 n,.int .i64 r] (.int .i64 (QT v n r)):=by
 refine Ev.x I.JI rfl rfl ?_;unfold IL at hv;by_cases hn:1<=n/\n<=62
 ·have h2:=Iq hn.1
  have h3:=O7 (n-1);have h4:=tX (m:=pw n) (by omega) hv;have h5:=xF (v:=v) h3;rw[<-h2]at h5;by_cases hr:1<=r/\r<=3
  ·rcases (by omega:r=1\/r=2\/r=3) with rfl|rfl|rfl
   all_goals (
    (repeat' ((first|(apply AH<;>intro hc<;>try omega)|(apply BA;omega)|(apply A2;omega)|(apply BN;omega)|(apply aU;omega)|(refine Q9 ?_ (λ_ _ => ?_);omega)|(refine aP ?_ (λ_ _ => ?_);omega)|apply oA|apply AD|refine GR (UF I _) (λ hf => ?_) (λ hf => ?_))<;>conv=>whnf))
    all_goals (first|contradiction|(exfalso;omega)|skip))
   all_goals (
    refine B9 ?_;unfold QT;rw[if_pos (by omega),if_neg (by omega)];first
     | (rw[if_pos (by omega)];done)
     | (rw[if_neg (by omega)];done)
     |(by_cases hc:pw (n-1)<=v%pw n
       ·rw[if_pos hc]at h5;rw[if_pos (by omega),h5]
       ·rw[if_neg hc]at h5;rw[if_neg (by omega),h5];omega))
  ·(repeat' ((first|(apply AH<;>intro hc<;>try omega)|apply AD|refine GR (UF I _) (λ hf => ?_) (λ hf => ?_))<;>conv=>whnf))
   all_goals (first|contradiction|(exfalso;omega)|skip)
   all_goals (refine B9 ?_;unfold QT;rw[if_neg (by omega)])
 ·by_cases hz:n=0
  ·subst hz
   (repeat' ((first|(apply AH<;>intro hc<;>try omega)|apply AD|refine GR (UF I _) (λ hf => ?_) (λ hf => ?_))<;>conv=>whnf))
   all_goals (first|contradiction|(exfalso;omega)|skip)
   all_goals (refine B9 ?_;unfold QT;first|rw[if_pos (by omega),if_pos rfl]|rw[if_neg (by omega)])
  ·(repeat' ((first|(apply AH<;>intro hc<;>try omega)|apply AD)<;>conv=>whnf))
   all_goals (first|contradiction|(exfalso;omega)|skip)
   all_goals (refine B9 ?_;unfold QT;rw[if_neg (by omega)])
end Go.c8

namespace Go.c8
open F
attribute [local irreducible] AA AF AX AB CQ AY BB A9 BS BR CX D9 BT A1 BP CK AC A5 AL pw C7 CE DM DF DP DU DY BQ DE
set_option maxHeartbeats 1000000
variable {L:Lib}
theorem IP {α:Type} {l:List α} {i:Nat} {e:α} (h:l[i]? = some e):l.drop i=e::l.drop (i+1):=by
 obtain ⟨h1,h2⟩:=zS h;rw[List.drop_eq_getElem_cons h1,h2]
theorem OM {α:Type} {l:List α} {i:Nat} (h:l.length<=i):l.drop i=[]:=List.drop_eq_nil_of_le h
structure Nd where
 q:Bool
 ts:List (Int × Int)
abbrev uI (t:Int × Int):List AV:=[.int .i64 t.1,.int .i64 t.2]
abbrev uH (n:Nd):List AV:=[.sl n.q (n.ts.map uI)]
structure Nt where
 d:Wd
 c:Wd
 s:Int
 qn:Bool
 nodes:List Nd
 qx:Bool
 next:List Int
 out:Int
abbrev RP (n:Nt):List AV:=[.int .i64 n.d.b,.int .i64 n.d.f,.int .i64 n.d.r,.int .i64 n.d.o,.int .i64 n.c.b,.int .i64 n.c.f,.int .i64 n.c.r,.int .i64 n.c.o,.int .i64 n.s,.sl n.qn (n.nodes.map uH),.sl n.qx (n.next.map GK),.int .i64 n.out]
def M4 (c:Wd) (s:Int) (k:Nat) (t:Int × Int):Bool:=decide (0<=t.1/\t.1<=s+k/\(t.2=pw c.f\/FT c t.2))
def L9 (c:Wd) (s:Int):Nat->List Nd->Bool
 | _,[]=>true
 | k,n::l=>(decide (n.ts.length<=64)&&n.ts.all (M4 c s k))&&L9 c s (k+1) l
def QJ (m:Int) (l:List Int):Bool:=l.all λ k=>decide (0<=k/\k<=m)
def NP (n:Nt):Bool:=decide (WV n.d)&&decide (WV n.c)&&decide (0<=n.s/\n.s<=64/\n.nodes.length<=64/\(n.next.length:Int)=n.s)&&L9 n.c n.s 0 n.nodes&&QJ (n.s+n.nodes.length) n.next&&decide (0<=n.out/\n.out<=n.s+n.nodes.length)
variable (n:Nt)
theorem O3:NP n=true↔WV n.d/\WV n.c/\(0<=n.s/\n.s<=64/\n.nodes.length<=64/\(n.next.length:Int)=n.s)/\L9 n.c n.s 0 n.nodes=true/\QJ (n.s+n.nodes.length) n.next=true/\0<=n.out/\n.out<=n.s+n.nodes.length:=by
 simp only[NP,Bool.and_eq_true,decide_eq_true_eq,and_assoc]
theorem RQ {x:Bool} (h : ¬ x=true):false=x:=by simp at h;rw[h]
theorem uK {x:Bool} (h:x=true):true=x:=by rw[h]
theorem vS (I:j8 L) (J:v8 L):Ev L 21 [.agg (RP n)] (.bool (NP n)):=by
 refine Ev.x J.KC rfl rfl ?_;(repeat' ((first|(apply AH<;>intro hc<;>try omega)|apply AQ|apply AD|refine GR (RU ⟨_,_,_,_⟩ I) (λ hf => ?_) (λ hf => ?_))<;>conv=>whnf))
 all_goals try (
  refine E4 (RQ ?_);rw[O3];rintro ⟨x1,x2,x3,_⟩
  first|contradiction|omega)
 rename_i h1 h3 h4 h5;have h2:=hf;have h6:=hc;have h1:WV n.d:=h1;have h2:WV n.c:=h2;have hw:=h2;unfold WV at hw;refine DL (λ i=>n.nodes.length-i) (λ(i:Nat)=>i<=n.nodes.length/\L9 n.c n.s i (n.nodes.drop i)=L9 n.c n.s 0 n.nodes) (λ i=>[(45,.int .i64 i)]) (λ_=>[]) 0 ⟨by omega,rfl⟩ ?_;intro i ⟨p1,p2⟩ ih;(repeat' ((first|(apply AH<;>intro hc<;>try omega)|(apply A2;omega)|apply AQ|(refine NB ?_ (λ_=>rfl) (λ e he => ?_);omega)|apply AD)<;>conv=>whnf))
 ·rename Nd=>nd
  have hnd:=he;rw[IP hnd,L9,decide_eq_false (by omega)]at p2;refine E4 (RQ ?_);rw[O3,<-p2];simp
 ·rename Nd=>nd
  have hnd:=he;rw[IP hnd,L9,decide_eq_true (by omega),Bool.true_and]at p2;refine DL (λ j=>nd.ts.length-j) (λ(j:Nat)=>j<=nd.ts.length/\(nd.ts.drop j).all (M4 n.c n.s i)=nd.ts.all (M4 n.c n.s i)) (λ j=>[(57,.int .i64 j)]) (λ_=>[]) 0 ⟨by omega,rfl⟩ ?_;intro j ⟨r1,r2⟩ dn;(repeat' ((first|(apply AH<;>intro hc<;>try omega)|(apply A2;omega)|(refine Q9 ?_ (λ_ _ => ?_);omega)|(refine NB ?_ (λ_=>rfl) (λ e he => ?_);omega)|apply AD|refine GR (UE ⟨_,_,_,_⟩ I _) (λ hf => ?_) (λ hf => ?_))<;>conv=>whnf))
  all_goals try (
   have hb:M4 n.c n.s i e=false:=by
    simp only[M4,decide_eq_false_iff_not];intro hh;first|omega|exact absurd hh.2.2 (λ hx=>hx.elim (λ hx=>by omega) (λ hx=>by contradiction))
   rw[IP he,List.all_cons,hb,Bool.false_and]at r2;rw[<-r2,Bool.false_and]at p2;refine E4 (RQ ?_);rw[O3,<-p2];simp;done)
  all_goals try (
   have hb:M4 n.c n.s i e=true:=by
    simp only[M4,decide_eq_true_eq];exact ⟨by omega,by omega,by first|exact Or.inr (by assumption)|exact Or.inl (by assumption)⟩
   rw[IP he,List.all_cons,hb,Bool.true_and]at r2;exact BJ [] (by (conv=>whnf);exact ⟨rfl,rfl,rfl⟩) (dn (j+1) (by omega) ⟨by omega,r2⟩))
  rw[OM (by omega)]at r2;rw[<-r2,List.all_nil,Bool.true_and]at p2;exact B2 [] (ih (i+1) (by omega) ⟨by omega,p2⟩)
 ·rw[OM (by omega),L9]at p2
  refine DL (λ i=>n.next.length-i) (λ(i:Nat)=>i<=n.next.length/\QJ (n.s+n.nodes.length) (n.next.drop i)=QJ (n.s+n.nodes.length) n.next) (λ i=>[(99,.int .i64 i)]) (λ_=>[]) 0 ⟨by omega,rfl⟩ ?_;intro k ⟨r1,r2⟩ Qe;(repeat' ((first|(apply AH<;>intro hc<;>try omega)|(apply A2;omega)|(refine NB ?_ (λ_=>rfl) (λ e he => ?_);omega)|apply AD)<;>conv=>whnf))
  all_goals try (
   have hb:decide (0<=e/\e<=n.s+n.nodes.length)=false:=by (rw[decide_eq_false_iff_not];omega)
   rw[IP he,QJ,List.all_cons,hb,Bool.false_and]at r2;refine E4 (RQ ?_);rw[O3,<-r2];simp;done)
  all_goals try (
   have hb:decide (0<=e/\e<=n.s+n.nodes.length)=true:=by (rw[decide_eq_true_eq];omega)
   rw[IP he,QJ,List.all_cons,hb,Bool.true_and]at r2;exact BJ [] (by (conv=>whnf);exact ⟨rfl,rfl,rfl⟩) (Qe (k+1) (by omega) ⟨by omega,r2⟩))
  all_goals (
   rw[OM (by omega)]at r2;first
    | (refine E4 (uK ?_);rw[O3];exact ⟨h1,h2,by omega,p2.symm,r2.symm,by omega,by omega⟩)
    | (refine E4 (RQ ?_);rw[O3];omega))
end Go.c8

namespace Go.c8
open F
attribute [local irreducible] AA AF AX AB CQ AY BB A9 BS BR CX D9 BT A1 BP CK AC A5 AL pw C7 CE DM DF DP DU DY BQ DE
variable {L:Lib}
set_option maxHeartbeats 1000000
theorem La (n:Int):IL (IntKind.i64.wrap n):=by
 unfold IL;rw[IntKind.wrap_i64];omega
end Go.c8

namespace Go.c8
theorem mB {A w C:List Nat} {i n:Nat} (hi:i=A.length+n) (hn:n<w.length):(A++w++C)[i]? = w[n]? := by
 subst hi;rw[List.append_assoc,List.getElem?_append_right (by omega),Nat.add_sub_cancel_left,List.getElem?_append_left hn]
theorem Kw {A w C:List Nat} {i n v:Nat} (hi:i=A.length+n) (hn:n<w.length):(A++w++C).set i v=A++w.set n v++C:=by
 subst hi;rw[List.append_assoc,List.set_append_right _ _ (by omega),Nat.add_sub_cancel_left,List.set_append_left _ _ hn,List.append_assoc]
theorem LW {A w C:List Nat} {i v:Nat} {KK:List (List AV)->Prop} (n:Nat) (hi:i=A.length+n) (hn:n<w.length) (h:KK ((A++w.set n v++C).map AJ)):A9 ((A++w++C).map AJ) i 0 [.int .u32 (v:Int)] KK:=by
 have hl:i<(A++w++C).length:=by simp;omega
 refine WA (enc:=AJ) i v rfl rfl (λ_=>rfl) hl ?_;rw[Kw hi hn];exact h
theorem Jk {W X Vi p q u d c b pr t:Nat} (h:W+q*Vi=X+p*(c+b)) (lh:pr=q*d+c) (ht:t=DI (DI u (pr%4294967296)) b) (hu:u<4294967296) (hb:b<=1) :
  W+p*(t%4294967296)+q*(Vi+p*d)=X+p*u+p*4294967296*(pr/4294967296+t/9223372036854775808):=by
 obtain ⟨h1,_⟩:=VR hu (show pr%4294967296<4294967296 by omega) hb;rw[<-ht]at h1;have h2:=Nat.mod_add_div pr 4294967296;generalize t%4294967296=w at *;generalize t/9223372036854775808=b' at *;generalize pr%4294967296=pl at *;generalize pr/4294967296=ph at *;have e1:p*(w+pl+b)=p*(u+4294967296*b'):=by rw[h1]
 have e2:p*(pl+4294967296*ph)=p*(q*d+c):=by rw[h2,lh]
 grind
theorem iZ {q d c pr:Nat} (hq:q<4294967296) (hd:d<4294967296) (hc:c<4294967296) (lh:pr=q*d+c):pr/4294967296<4294967296/\pr<=18446744073709551615/\q*d<=18446744065119617025:=by
 have:=QI hq hd
 omega
theorem Ji {W X V p q u c b t:Nat} (h:W+q*V=X+p*(c+b)) (ht:t=DI (DI u c) b) (hu:u<4294967296) (hc:c<4294967296) (hb:b<=1) :
  W+p*(t%4294967296)+q*V=X+p*u+p*4294967296*(t/9223372036854775808):=by
 obtain ⟨h1,_⟩:=VR hu hc hb;rw[<-ht]at h1;generalize t%4294967296=w at *;generalize t/9223372036854775808=b' at *;have e1:p*(w+c+b)=p*(u+4294967296*b'):=by rw[h1]
 grind
theorem Jl {W X Vi p q u d c b pr w take have' w7:Nat} (h:W+q*Vi=X+p*(c+b)) (lh:pr=c+q*d) (h1:take=pr%4294967296+b) (h2:(have'=u/\w7=0/\take<=u)\/(have'=u+4294967296/\w7=1/\u<take)) (h3:w+take=have') :
  W+p*w+q*(Vi+p*d)=X+p*u+p*4294967296*(pr/4294967296+w7):=by
 have h4:=Nat.mod_add_div pr 4294967296;have h5:w+pr%4294967296+b=u+4294967296*w7:=by omega
 generalize pr%4294967296=pl at *;generalize pr/4294967296=ph at *;have e1:p*(w+pl+b)=p*(u+4294967296*w7):=by rw[h5]
 have e2:p*(pl+4294967296*ph)=p*(c+q*d):=by rw[h4,lh]
 grind
theorem Jj {W X V p q u c b w take have' w7:Nat} (h:W+q*V=X+p*(c+b)) (h1:take=c+b) (h2:(have'=u/\w7=0/\take<=u)\/(have'=u+4294967296/\w7=1/\u<take)) (h3:w+take=have') :
  W+p*w+q*V=X+p*u+p*4294967296*w7:=by
 have h5:w+c+b=u+4294967296*w7:=by omega
 have e1:p*(w+c+b)=p*(u+4294967296*w7):=by rw[h5]
 grind
theorem bH {W X Vi p w d c t:Nat} (h:W+p*c=X+Vi) (ht:t=w+d+c):W+p*(t%4294967296)+p*4294967296*(t/4294967296)=X+p*w+(Vi+p*d):=by
 have h1:=MK W p t;have e:p*t=p*w+p*d+p*c:=by rw[ht];grind
 omega
theorem bG {W X V R p w c:Nat} (h:W+p*c=X+V) (hX:X+p*w+V=R+p*4294967296) (hR:R<p*4294967296) (hW:W<p):W+p*((w+c)%4294967296)=R:=by
 have h1:W+p*(w+c)=R+p*4294967296:=by
  rw[Nat.mul_add];omega
 have h2:=Nat.mod_add_div (w+c) 4294967296;have h3:p*(w+c)=p*((w+c)%4294967296)+p*4294967296*((w+c)/4294967296):=by
  rw[Nat.mul_assoc,<-Nat.mul_add,h2]
 have h4:(w+c)%4294967296<4294967296:=Nat.mod_lt _ (by omega);generalize (w+c)%4294967296=m at *;generalize (w+c)/4294967296=k at *;have h5:W+p*m<p*4294967296:=by
  have:p*m+p<=p*4294967296:=by rw[<-Nat.mul_succ];exact Nat.mul_le_mul_left p (by omega)
  omega
 have h6:k=1:=by
  rcases Nat.lt_trichotomy k 1 with hk|hk|hk
  ·have:k=0:=by omega
   subst this;omega
  ·exact hk
  ·have:p*4294967296*2<=p*4294967296*k:=Nat.mul_le_mul_left _ (by omega)
   omega
 subst h6;omega
theorem Md {U V UL VL p u2 v2 v1 top:Nat} (hU:U=UL+p*(u2+4294967296*top)) (hV:V=VL+p*(v2+4294967296*v1)) (se:VL<p) (h2:v2<4294967296) (h:U<4294967296*V):top<4294967296*(v1+1):=by
 have h3:V<p*(4294967296*(v1+1)):=by
  have:p*(v2+4294967296*v1)+p<=p*(4294967296*(v1+1)):=by
   rw[<-Nat.mul_succ];exact Nat.mul_le_mul_left p (by omega)
  omega
 have h4:p*(4294967296*top)<=U:=by
  have:p*(4294967296*top)<=p*(u2+4294967296*top):=Nat.mul_le_mul_left p (by omega)
  omega
 have h5:p*(4294967296*top)<p*(4294967296*(4294967296*(v1+1))):=by
  have:p*(4294967296*(4294967296*(v1+1)))=4294967296*(p*(4294967296*(v1+1))):=by grind
  omega
 have:=Nat.lt_of_mul_lt_mul_left h5
 omega
structure Gs (U V v1 v2 u2 top q r:Nat):Prop where
 hq:q*v1+r=top
 hr:r<4294967296
 ge:U/V<=q
theorem Gs.next {U V UL VL p v1 v2 u2 top q r:Nat} (g:Gs U V v1 v2 u2 top q r) (hU:U=UL+p*(u2+4294967296*top)) (hV:V=VL+p*(v2+4294967296*v1)) (ux:UL<p) (s8:0<V) (Aa:U<4294967296*V)
  (h:4294967296<=q\/r*4294967296+u2<q*v2):1<=q/\(q-1)*v1+(r+v1)=top/\U/V<=q-1:=by
 have h1:U/V<q:=by
  rcases h with h|h
  ·exact xB Aa h s8
  ·exact xC hU hV ux g.hq h s8
 have hq:=g.hq;clear h g hU hV Aa;generalize U/V=Q at *;obtain ⟨k,rfl⟩ : ∃ k,q=k+1:=⟨q-1,by omega⟩;refine ⟨by omega,?_,by omega⟩;rw[Nat.add_sub_cancel,<-hq,Nat.add_mul];omega
theorem Gs.start {U V UL VL p v1 v2 u2 top:Nat} (hU:U=UL+p*(u2+4294967296*top)) (hV:V=VL+p*(v2+4294967296*v1)) (ux:UL<p) (h2:u2<4294967296) (s8:0<V) (h1:0<v1) (Qt:v1<4294967296):Gs U V v1 v2 u2 top (top/v1) (top%v1):=by
 refine ⟨by rw[Nat.mul_comm];exact Nat.div_add_mod _ _,?_,?_⟩
 ·have:=Nat.mod_lt top h1
  omega
 ·rw[Nat.le_div_iff_mul_le h1]
  exact xD hU hV ux h2 s8
theorem QA {U V UL VL p v1 v2 u2 top q r:Nat} (hU:U=UL+p*(u2+4294967296*top)) (hV:V=VL+p*(v2+4294967296*v1)) (se:VL<p) (Ar:2147483648<=v1) (As:v2<4294967296) (Aa:U<4294967296*V) (hq:q*v1+r=top)
  (h:(q<4294967296/\q*v2<=r*4294967296+u2)\/4294967296<=r):q<4294967296/\q<=U/V+1:=by
 rcases h with ⟨h1,h2⟩|h
 ·exact ⟨h1,gJ hU hV se Ar hq h2 h1⟩
 ·have ht:=Md hU hV se As Aa
  have vl:q<4294967296:=by
   have h3:q*v1<4294967296*v1:=by omega
   exact Nat.lt_of_mul_lt_mul_right h3
  refine ⟨vl,gJ hU hV se Ar hq ?_ vl⟩;have:=QI vl As
  omega
theorem PL (a:List Nat) (k:Nat):val a=val (a.take k)+4294967296^k*val (a.drop k):=by
 rcases Nat.lt_or_ge a.length k with h|h
 ·rw[zT (by omega),List.drop_of_length_le (by omega),HL];omega
 ·exact IG a k h
theorem PK (a:List Nat) (k:Nat):val (a.drop k)=a.getD k 0+4294967296*val (a.drop (k+1)):=by
 rcases Nat.lt_or_ge k a.length with h|h
 ·rw[F3 (zE h),List.getD_eq_getElem?_getD,zE h];rfl
 ·rw[List.drop_of_length_le h,List.drop_of_length_le (by omega),List.getD_eq_getElem?_getD,List.getElem?_eq_none h];rfl
theorem NJ {a:List Nat} (h:AR a) (k:Nat):a.getD k 0<4294967296:=by
 rw[List.getD_eq_getElem?_getD];cases e:a[k]? with
 | none=>simp
 | some d=>simpa using h.at e
theorem getD_some {a:List Nat} {k d:Nat} (h:a[k]? = some d):d=a.getD k 0:=by rw[List.getD_eq_getElem?_getD,h];rfl
theorem NK {a:List Nat} {k:Nat} (h:a.length<=k):0=a.getD k 0:=by rw[List.getD_eq_getElem?_getD,List.getElem?_eq_none h];rfl
theorem VW {a:List Nat} (hD:AR a) {n:Nat} (hn:3<=n) (hl:a.length<=n) : ∃ r,r<4294967296^(n-3)/\val a=r+4294967296^(n-3)*(a.getD (n-3) 0+4294967296*(a.getD (n-2) 0+4294967296*a.getD (n-1) 0)):=by
 refine ⟨val (a.take (n-3)),?_,?_⟩
 ·refine Nat.lt_of_lt_of_le (DX (hD.take _)) (Nat.pow_le_pow_right (by omega) ?_)
  rw[List.length_take];omega
 ·have h1:=PL a (n-3)
  have h2:=PK a (n-3);have h3:=PK a (n-3+1);have h4:=PK a (n-3+1+1);rw[List.drop_of_length_le (show a.length<=n-3+1+1+1 by omega),HL]at h4;rw[show n-3+1=n-2 by omega]at *;rw[show n-2+1=n-1 by omega]at *;rw[h4,Nat.mul_zero,Nat.add_zero]at h3;rw[h3]at h2;rw[h2]at h1;exact h1
theorem lV {a:List Nat} (hD:AR a) {n:Nat} (hn:2<=n) (hl:a.length<=n) : ∃ r,r<4294967296^(n-2)/\val a=r+4294967296^(n-2)*(a.getD (n-2) 0+4294967296*a.getD (n-1) 0):=by
 refine ⟨val (a.take (n-2)),?_,?_⟩
 ·refine Nat.lt_of_lt_of_le (DX (hD.take _)) (Nat.pow_le_pow_right (by omega) ?_)
  rw[List.length_take];omega
 ·have h1:=PL a (n-2)
  have h2:=PK a (n-2);have h3:=PK a (n-2+1);rw[List.drop_of_length_le (show a.length<=n-2+1+1 by omega),HL]at h3;rw[show n-2+1=n-1 by omega]at *;rw[h3,Nat.mul_zero,Nat.add_zero]at h2;rw[h2]at h1;exact h1
theorem NG {a b:Nat} (h:a<=b):(dg a).length<=(dg b).length:=by
 rcases Nat.lt_or_ge (dg b).length (dg a).length with h1|h1
 ·have:=QZ h1;omega
 ·exact h1
theorem WZ {p:Nat} (h:p<18446744073709551616):val [p%4294967296,p/4294967296]=p/\AR [p%4294967296,p/4294967296]:=by
 refine ⟨by simp [val];omega,λ x hx => ?_⟩;simp at hx;omega
theorem FN {a:List Nat} {k d:Nat} (h:a[k]? = some d):a.getD k 0=d:=(getD_some h).symm
theorem YC {y:List Nat} {s yt:Nat} (hD:AR y) (po:y[y.length-1]? = some yt) (hl:1<=y.length) (hs:s<=31) (b3:2147483648<=yt*2^s) (b4:yt*2^s<4294967296):val y*2^s<4294967296^y.length/\4294967296^(y.length-1)*2147483648<=val y*2^s:=by
 have h1:=IG y (y.length-1) (by omega);have h2:=F3 po;rw[List.drop_of_length_le (show y.length<=y.length-1+1 by omega),HL,Nat.mul_zero,Nat.add_zero]at h2;rw[h2]at h1;have h3:=DX (hD.take (y.length-1));rw[List.length_take,Nat.min_eq_left (by omega)]at h3;have e:4294967296^y.length=4294967296^(y.length-1)*4294967296:=by rw[<-Nat.pow_succ,Nat.succ_eq_add_one,show y.length-1+1=y.length by omega]
 rw[e];generalize 4294967296^(y.length-1)=p at *;have hk:(yt+1)*2^s<=4294967296:=by
  have e2:4294967296=2^s*2^(32-s):=by rw[<-Nat.pow_add,show s+(32-s)=32 by omega]
  rw[e2,Nat.mul_comm]at b4;have:=Nat.lt_of_mul_lt_mul_left b4
  rw[e2,Nat.mul_comm];exact Nat.mul_le_mul_left _ this
 have h4:val y+1<=p*(yt+1):=by rw[Nat.mul_add];omega
 have h5:=zR (2^s) h4;have h6:p*((yt+1)*2^s)<=p*4294967296:=Nat.mul_le_mul_left p hk;rw[<-Nat.mul_assoc]at h6;have h7:p*2147483648<=p*(yt*2^s):=Nat.mul_le_mul_left p b3;have h8:p*(yt*2^s)<=val y*2^s:=by rw[<-Nat.mul_assoc];exact zR _ (by omega)
 have h9:=Nat.two_pow_pos s;rw[Nat.add_mul]at h5;exact ⟨by omega,by omega⟩
theorem lQ {v:List Nat} {k c d:Nat} (hD:AR v) (hl:v.length=k+1) (h:4294967296^k*c<=val v) (hd:v[k]? = some d):c<=d:=by
 have h1:=IG v k (by omega);have h2:=F3 hd;rw[List.drop_of_length_le (show v.length<=k+1 by omega),HL,Nat.mul_zero,Nat.add_zero]at h2;rw[h2]at h1;have h3:=DX (hD.take k);rw[List.length_take,Nat.min_eq_left (by omega)]at h3;generalize 4294967296^k=p at *;have h4:p*c<p*(d+1):=by rw[Nat.mul_add];omega
 have:=Nat.lt_of_mul_lt_mul_left h4
 omega
theorem dR (o:List Nat) (j n:Nat) (h:j+n<=o.length) : ∃ A W C,A.length=j/\W.length=n/\o=A++W++C:=by
 refine ⟨o.take j,(o.drop j).take n,(o.drop j).drop n,by simp;omega,by simp;omega,?_⟩;rw[List.append_assoc,List.take_append_drop,List.take_append_drop]
theorem cZ {A W C:List Nat} (h:AR (A++W++C)):AR A/\AR W/\AR C:=by
 refine ⟨λ x hx=>h x (by simp [hx]),λ x hx=>h x (by simp [hx]),λ x hx=>h x (by simp [hx])⟩
theorem dT {A W C:List Nat} {j l V:Nat} (hA:A.length=j) (hW:W.length=l+1) (hD:AR (A++W++C)) (h:val ((A++W++C).drop (j+1))<V) (hV:V<4294967296^l) :
  val C=0/\val W<4294967296*V/\val ((A++W++C).take (j+1))+4294967296^(j+1)*val ((A++W++C).drop (j+1))=val A+4294967296^j*val W:=by
 have h1:=PL (A++W++C) (j+1);have h2:val (A++W++C)=val A+4294967296^j*(val W+4294967296^(l+1)*val C):=by
  rw[List.append_assoc,QY,QY,hA,hW]
 have h3:=PK (A++W++C) j;have h4:(A++W++C).drop j=W++C:=by
  rw[List.append_assoc,List.drop_append_of_le_length (by omega),List.drop_of_length_le (by omega)];rfl
 have h5:=NJ hD j;rw[h4,QY,hW]at h3;rw[Nat.pow_succ]at h3;have h6:val C=0:=by
  rcases Nat.eq_zero_or_pos (val C) with h0|h0
  ·exact h0
  ·have:4294967296^l*4294967296*1<=4294967296^l*4294967296*val C:=Nat.mul_le_mul_left _ h0
   omega
 rw[h6,Nat.mul_zero,Nat.add_zero]at h3;refine ⟨h6,by omega,?_⟩;rw[<-h1,h2,h6,Nat.mul_zero,Nat.add_zero]
theorem W8 {A W C:List Nat} {j:Nat} (hA:A.length=j) (hC:val C=0):val ((A++W++C).drop j)=val W/\val ((A++W++C).take j)=val A:=by
 rw[List.append_assoc,List.drop_append_of_le_length (by omega),List.drop_of_length_le (by omega),List.take_append_of_le_length (by omega),zT (by omega),List.nil_append,QY,hC];simp
theorem dS {U VA P Q q V W R:Nat} (h:U=VA+P*W+P*4294967296*(Q*V)) (h2:W=q*V+R):U=VA+P*((q+4294967296*Q)*V+R):=by
 rw[h,h2];grind
section
variable {a b:Nat} {K:AV->Prop}
theorem aS (n:Nat) (hx:a%2^n=0) (hy:b<2^n) (h:a+b<=18446744073709551615) (hk:K (.int .u64 ((a+b:Nat):Int))):AB .or .u64 (a:Int) .u64 (b:Int) K :=
 V6 n hx hy (show a+b<18446744073709551616 by omega) (IntWalk.u64_in _ (by omega)) hk
theorem TB (n:Nat) (hx:b%2^n=0) (hy:a<2^n) (h:a+b<=18446744073709551615) (hk:K (.int .u64 ((a+b:Nat):Int))):AB .or .u64 (a:Int) .u64 (b:Int) K:=by
 have e:CD .or .u64 (a:Int) .u64 (b:Int)=CD .or .u64 (b:Int) .u64 (a:Int):=by
  simp only[CD,if_true,BitVec.or_comm]
 rw[Nat.add_comm]at hk h;have hh:=aS (K:=K) n hx hy h hk;unfold AB at hh ⊢;rw[e];exact hh
end
theorem TA {a:Nat} {K:AV->Prop} (h:a<=18446744069414584319) (hk:K (.int .u64 ((a+4294967296:Nat):Int))):AB .add .u64 (a:Int) .u64 4294967296 K :=
 E5 (b:=4294967296) (by omega) hk
theorem HX {l:List Nat} {i e:Nat} {K:List AV->Prop} (he:l[i]? = some e) (h:K (AJ e)):BB (l.map AJ) (0+((i:Int)).toNat) 0 1 K :=
 V4 (e:=e) (by rw[Nat.zero_add,Int.toNat_natCast];exact he) rfl h
theorem nZ {l:List Nat} {i:Int} {e:Nat} {K:List AV->Prop} (he:l[i.toNat]? = some e) (h:K (AJ e)):BB (l.map AJ) (0+i.toNat) 0 1 K :=
 V4 (e:=e) (by rw[Nat.zero_add];exact he) rfl h
theorem M9 {A w C:List Nat} {i e:Nat} {K:List AV->Prop} (n:Nat) (he:w[n]? = some e) (hi:i=A.length+n) (h:K (AJ e)):BB ((A++w++C).map AJ) i 0 1 K:=by
 have hn:=(zS he).1;exact V4 (e:=e) (by rw[mB hi hn];exact he) rfl h
end Go.c8

namespace Go.c8
def QC (n s:Nat):Nat:=4294967296^(n-3)*(2^(32-s)*4)
theorem zG (n s:Nat):0<QC n s:=Nat.mul_pos (Nat.pow_pos (by omega)) (Nat.mul_pos (Nat.two_pow_pos _) (by omega))
theorem hH {a:List Nat} (hD:AR a) {n s d1 d2 d3:Nat} (hn:3<=n) (hl:a.length<=n) (hs:s<=31) (h1:d1=a.getD (n-1) 0) (h2:d2=a.getD (n-2) 0) (h3:d3=a.getD (n-3) 0) :
  ((d1*4294967296+d2)*2^s+d3*2^s/4294967296)/4=val a/QC n s:=by
 obtain ⟨r,hr,hv⟩:=VW hD hn hl;rw[<-h1,<-h2,<-h3]at hv;unfold QC;rw[hv,<-Nat.div_div_eq_div_mul,Nat.add_mul_div_left _ _ (Nat.pow_pos (by omega)),Nat.div_eq_of_lt hr,Nat.zero_add,<-Nat.div_div_eq_div_mul];congr 1;have e:d3+4294967296*(d2+4294967296*d1)=d3+2^(32-s)*(2^s*(d1*4294967296+d2)):=by
  rw[<-Nat.mul_assoc,<-Nat.pow_add,show 32-s+s=32 by omega];omega
 rw[e,Nat.add_mul_div_left _ _ (Nat.two_pow_pos _)];have:=kM (d:=d3) (s:=s) (by omega)
 rw[PC]at this;rw[this,Nat.mul_comm (2^s)];omega
theorem hJ {a:List Nat} (hD:AR a) {n s d1 d2:Nat} (hn:3<=n) (hl:a.length<=n) (h1:d1=a.getD (n-1) 0) (h2:d2=a.getD (n-2) 0) (k6:val a*2^s<4294967296^n) :
  (d1*4294967296+d2)*2^s<=18446744073709551615:=by
 obtain ⟨r,hr,hv⟩:=VW hD hn hl;rw[<-h1,<-h2]at hv;generalize a.getD (n-3) 0=d3 at *;have e:4294967296^n=4294967296^(n-3)*(4294967296*18446744073709551616):=by
  rw[show n=n-3+3 by omega,Nat.pow_add,show n-3+3-3=n-3 by omega]
 rw[e,hv]at k6;generalize 4294967296^(n-3)=p at *;have h3:p*(4294967296*((d1*4294967296+d2)*2^s))<p*(4294967296*18446744073709551616):=by
  refine Nat.lt_of_le_of_lt ?_ k6;rw[<-Nat.mul_assoc,<-Nat.mul_assoc];refine zR _ ?_;have h5:p*(4294967296*(d2+4294967296*d1))<=p*(d3+4294967296*(d2+4294967296*d1)):=Nat.mul_le_mul_left p (by omega);rw[Nat.mul_assoc,show d1*4294967296+d2=d2+4294967296*d1 by omega];omega
 have:=Nat.lt_of_mul_lt_mul_left (Nat.lt_of_mul_lt_mul_left h3)
 omega
theorem US {k s:Nat} (hs:s<=64) (h:k*2^s<=18446744073709551615):k*2^s+2^s<=18446744073709551616:=by
 have e:18446744073709551616=2^(64-s)*2^s:=by rw[<-Nat.pow_add,show 64-s+s=64 by omega]
 have h1:k<2^(64-s):=by
  refine Nat.lt_of_mul_lt_mul_right (a:=2^s) ?_;rw[<-e];omega
 have h2:=zR (2^s) h1;rw[Nat.succ_mul,<-e]at h2;exact h2
theorem iA {a:List Nat} (hD:AR a) {n s:Nat} (hn:3<=n) (hl:a.length<=n) (hs:s<=31) (k6:val a*2^s<4294967296^n):val a/QC n s<=4611686018427387904:=by
 rw[<-hH hD hn hl hs rfl rfl rfl];have h1:=hJ hD hn hl rfl rfl k6;have b3:=NJ hD (n-3);have h2:=US (show s<=64 by omega) h1;obtain ⟨_,h3,_,_⟩:=PD (s:=s) b3 (by omega);rw[PC]at h3;generalize (a.getD (n-1) 0*4294967296+a.getD (n-2) 0)*2^s=T at *;generalize a.getD (n-3) 0*2^s=U at *;omega
theorem iB {V K:Nat} (hK:0<K) : ∃ e:Int,(V:Int)=(K:Int)*((V/K:Nat):Int)+e/\0<=e/\e<=K:=by
 refine ⟨((V%K:Nat):Int),?_,by omega,?_⟩
 ·have:=Nat.div_add_mod V K
  have h2:((K*(V/K)+V%K:Nat):Int)=(V:Int):=by rw[this]
  rw[<-h2];simp
 ·have:=Nat.mod_lt V hK
  omega
def RK (t:Int):Nat:=(t%4294967296).toNat
theorem cL (t:Int):RK t<4294967296:=by unfold RK;omega
theorem WP (t:Int):(RK t:Int)=t%4294967296:=by unfold RK;omega
def M8 (f g:Int):Prop:=(0<=f/\f<=2147483647 /\ -2147483647<=g/\g<=0)\/(-2147483647<=f/\f<=0/\0<=g/\g<=2147483647)
theorem kJ {f:Int} {d:Nat} (hd:d<4294967296):(0<=f->f<=2147483647->0<=f*d/\f*d<=9223372030412324865)/\(f<=0 -> -2147483647<=f->f*d<=0 /\ -9223372030412324865<=f*d):=by
 constructor
 ·intro h0 h1
  refine ⟨Int.mul_nonneg h0 (by omega),?_⟩;have:f*d<=2147483647*4294967295:=Int.mul_le_mul h1 (by omega) (by omega) (by omega)
  omega
 ·intro h0 h1
  have a1:0<=(-f)*d:=Int.mul_nonneg (by omega) (by omega);have a2:(-f)*d<=2147483647*4294967295:=Int.mul_le_mul (by omega) (by omega) (by omega) (by omega);rw[Int.neg_mul]at a1 a2;omega
theorem M8.Hu {f g:Int} (h:M8 f g) {d e:Nat} (hd:d<4294967296) (he:e<4294967296):(-9223372030412324865<=f*d/\f*d<=9223372030412324865)/\(-9223372030412324865<=g*e/\g*e<=9223372030412324865) /\ -9223372030412324865<=f*d+g*e/\f*d+g*e<=9223372030412324865:=by
 obtain ⟨a1,a2⟩:=kJ (f:=f) hd;obtain ⟨b1,b2⟩:=kJ (f:=g) he;rcases h with ⟨h1,h2,h3,h4⟩|⟨h1,h2,h3,h4⟩
 ·have:=a1 h1 h2;have:=b2 h4 h3;omega
 ·have:=a2 h2 h1;have:=b1 h3 h4;omega
theorem cM {V X Y p c f g d e t:Int} (h:V+p*c=f*X+g*Y) (ht:t=f*d+c+g*e):V+p*(t%4294967296)+p*4294967296*(t/4294967296)=f*(X+p*d)+g*(Y+p*e):=by
 have h1:=Int.emod_add_mul_ediv t 4294967296;have h2:p*(t%4294967296)+p*4294967296*(t/4294967296)=p*t:=by
  rw[Int.mul_assoc,<-Int.mul_add,h1]
 have h3:p*t=f*(p*d)+p*c+g*(p*e):=by rw[ht];grind
 have h4:f*(X+p*d)=f*X+f*(p*d):=by rw[Int.mul_add]
 have h5:g*(Y+p*e)=g*Y+g*(p*e):=by rw[Int.mul_add]
 omega
theorem qZ {V P:Nat} {c R:Int} (hV:V<P) (h:(V:Int)+P*c=R) (h0:0<=R) (h1:R<P):(V:Int)=R:=by
 have hc:c=0:=by
  rcases Int.lt_trichotomy c 0 with hc|hc|hc
  ·have:(P:Int)*c<=P*(-1):=Int.mul_le_mul_of_nonneg_left (by omega) (by omega)
   omega
  ·exact hc
  ·have:(P:Int)*1<=P*c:=Int.mul_le_mul_of_nonneg_left (by omega) (by omega)
   omega
 subst hc;omega
theorem R2 (x y:Nat):Nat.gcd y (x%y)=Nat.gcd x y:=by
 rw[Nat.gcd_comm x y,Nat.gcd_rec y x];exact Nat.gcd_comm _ _
def zv (neg:Bool) (m:List Nat):Int:=bif neg then -(val m:Int) else (val m:Int)
abbrev rZ (q neg:Bool) (m:List Nat):List AV:=[.bool neg,.sl q (m.map AJ)]
abbrev eZ (z:Int):List AV:=rZ false (decide (z<0)) (dg z.natAbs)
theorem D8 (neg:Bool) (m:List Nat):(zv neg m).natAbs=val m:=by cases neg<;>simp [zv]
theorem FK (z:Int):zv (decide (z<0)) (dg z.natAbs)=z:=by
 unfold zv;rw[BF];by_cases h:z<0
 ·simp [h];omega
 ·simp [h];omega
def Sm (n:Nat) (m:List Nat):Prop:=AR m/\m.length<=n
theorem Sm.dg {n V:Nat} (h:V<4294967296^n):Sm n (dg V):=⟨C3 V,L2.2 h⟩
theorem Sm.le {n n':Nat} {m:List Nat} (h:Sm n m) (hn:n<=n'):Sm n' m:=⟨h.1,by have:=h.2;omega⟩
theorem Sm.val {n:Nat} {m:List Nat} (h:Sm n m):val m<4294967296^n:=Nat.lt_of_lt_of_le (DX h.1) (Nat.pow_le_pow_right (by omega) h.2)
theorem Sm.od {n:Nat} {m:List Nat} (h:Sm n m):Sm n (Go.c8.dg (Go.c8.val m)):=Sm.dg h.val
theorem DN {z:Int} {b:Bool} {n:Nat} (h1:n=z.natAbs) (h2:b=decide (z<0)):AV.agg [.bool b,.sl false ((dg n).map AJ)] = .agg (eZ z):=by rw[h1,h2]
theorem CW (z:Int):AZ (.agg (eZ z)):=by
 simp only[AZ,CG,and_true,true_and];exact CR _
theorem LR {z:Int} (h:z<0):true=decide (z<0):=by simp [h]
theorem FG {z:Int} (h:0<=z):false=decide (z<0):=by simp;omega
theorem kO (n:Nat):Sm n []:=⟨P2,Nat.zero_le _⟩
theorem ZN {n d:Nat} (hn:1<=n) (hd:d<4294967296):Sm n [d]:=⟨F6 hd,hn⟩
theorem mG (b:Bool):zv b []=0:=by cases b<;>rfl
theorem Sm.low {n V:Nat} {m:List Nat} (h:Sm n m) (hV:V<=Go.c8.val m):Sm n (Go.c8.dg V):=Sm.dg (Nat.lt_of_le_of_lt hV h.val)
theorem Sm.mul {n k:Nat} {a b:List Nat} (ha:Sm n a) (hb:Sm k b) {V:Nat} (hV:V=Go.c8.val a*Go.c8.val b):Sm (n+k) (Go.c8.dg V):=by
 refine Sm.dg ?_;rw[hV,Nat.pow_add];exact Nat.mul_lt_mul_of_le_of_lt (Nat.le_of_lt ha.val) hb.val (Nat.pow_pos (by omega))
theorem Sm.add {n:Nat} {a b:List Nat} (ha:Sm n a) (hb:Sm n b) {V:Nat} (hV:V<=Go.c8.val a+Go.c8.val b):Sm (n+1) (Go.c8.dg V):=by
 refine Sm.dg ?_;have h1:=ha.val;have h2:=hb.val;rw[Nat.pow_succ];omega
theorem GX (V:Nat):(dg V).length=0↔V=0:=by rw[List.length_eq_zero_iff,W0]
theorem EE (m:List Nat):zv false m=(val m:Int):=rfl
theorem ME (m:List Nat):zv true m = -(val m:Int):=rfl
def v5 (z:Int):Int:=if z<0 then -1 else if 0<z then 1 else 0
theorem kK {z:Int} (h:z<0) : -1=v5 z:=by unfold v5;rw[if_pos h]
theorem kL {z:Int} (h:0<z):1=v5 z:=by unfold v5;rw[if_neg (by omega),if_pos h]
theorem VI {z:Int} (h:z=0):0=v5 z:=by unfold v5;rw[if_neg (by omega),if_neg (by omega)]
theorem lW {n:Nat} (h:n<18446744073709551616):val [n%4294967296,n/4294967296]=n:=(by simp [val];omega)
abbrev rQ (q1 q2 n:Bool) (m d:List Nat):List AV:=[.bool n,.sl q1 (m.map AJ),.sl q2 (d.map AJ)]
abbrev eQ (x:Rat):List AV:=rQ false false (decide (x.num<0)) (dg x.num.natAbs) (dg x.den)
def qv (n:Bool) (m d:List Nat):Rat:=mkRat (zv n m) (val d)
theorem G8 (x:Rat):qv (decide (x.num<0)) (dg x.num.natAbs) (dg x.den)=x:=by
 unfold qv;rw[FK,BF,Rat.mkRat_self]
theorem gF {d:Nat} (z:Nat) (hd:d≠0):0<Nat.gcd d z:=Nat.gcd_pos_of_pos_left z (by omega)
theorem YO {z:Int} {d:Nat} (hd:d≠0):(mkRat z d).num.natAbs=z.natAbs/Nat.gcd d z.natAbs/\(mkRat z d).den=d/Nat.gcd d z.natAbs/\decide ((mkRat z d).num<0)=decide (z<0):=by
 have hg:=gF z.natAbs hd;have h1:=Rat.num_mkRat z d;have h2:=Rat.den_mkRat z d;rw[if_neg hd]at h1 h2;rw[h1,h2];obtain ⟨k,hk⟩:=Nat.gcd_dvd_right d z.natAbs;generalize hG:Nat.gcd d z.natAbs=g at *;have hz:z=(g:Int)*(z.sign*k):=by
  rw[<-Int.mul_assoc,Int.mul_comm (g:Int),Int.mul_assoc,<-Int.natCast_mul,<-hk,Int.sign_mul_natAbs]
 have e1:z/(g:Int)=z.sign*k:=by
  rw[hz,Int.mul_ediv_cancel_left _ (by omega),<-hz]
 refine ⟨?_,rfl,?_⟩
 ·rw[e1,Int.natAbs_mul,hk,Nat.mul_div_cancel_left _ hg]
  by_cases h0:z=0
  ·subst h0
   have:k=0:=by
    have h5:g*k=0:=hk.symm;rcases Nat.mul_eq_zero.1 h5 with h|h
    ·omega
    ·exact h
   subst this;simp
  ·rw[Int.natAbs_sign_of_ne_zero h0,Nat.one_mul];simp
 ·congr 1
  rw[eq_iff_iff];rw[Int.ediv_lt_iff_lt_mul (by omega),Int.zero_mul]
theorem EM (x:Rat):AZ (.agg (eQ x)):=by
 simp only[AZ,CG,and_true,true_and];exact ⟨CR _,CR _⟩
theorem RI (b w:Bool) (m d:List Nat):AZ (.agg [.bool b,.sl false (m.map AJ),.sl false (d.map AJ),.bool w]):=by
 simp only[AZ,CG,and_true,true_and];exact ⟨CR _,CR _⟩
theorem qW (b:Bool) (m:List Nat):AZ (.agg [.bool b,.sl false (m.map AJ)]):=by
 simp only[AZ,CG,and_true,true_and];exact CR _
theorem TU (b:Bool) (m d:List Nat):AZ (.agg [.bool b,.sl false (m.map AJ),.sl false (d.map AJ)]):=by
 simp only[AZ,CG,and_true,true_and];exact ⟨CR _,CR _⟩
theorem XY (q:Bool) (l:List Nat):Q4 (.sl q (l.map AJ)):=by
 intro e he c hc;obtain ⟨x,_,rfl⟩:=List.mem_map.1 he;simp at hc;subst hc;rfl
theorem aN {r:AV} {K:AV->Prop} (h:HW r) (hk:K (px r)):BQ r K:=⟨Or.inl h,by rw[YH h];exact hk⟩
theorem nW {r:AV} {K:AV->Prop} (h : ¬ HW r) (hd:N1 r) (hk:K (IQ r)):BQ r K:=⟨Or.inr hd,by rw[YG h];exact hk⟩
theorem HV {b w q1 q2:Bool} {m d:List Nat} {K:AV->Prop} (hk:K (.agg [.bool b,.sl true (m.map AJ),.sl true (d.map AJ),.bool w])):BQ (.agg [.bool b,.sl q1 (m.map AJ),.sl q2 (d.map AJ),.bool w]) K:=by
 refine aN ?_ hk;intro c hc;simp only[List.mem_cons,List.not_mem_nil,or_false]at hc;rcases hc with rfl|rfl|rfl|rfl
 ·trivial
 ·exact XY _ _
 ·exact XY _ _
 ·trivial
theorem V2 {b q1:Bool} {m:List Nat} {K:AV->Prop} (hk:K (.agg [.bool b,.sl true (m.map AJ)])):BQ (.agg [.bool b,.sl q1 (m.map AJ)]) K:=by
 refine aN ?_ hk;intro c hc;simp only[List.mem_cons,List.not_mem_nil,or_false]at hc;rcases hc with rfl|rfl
 ·trivial
 ·exact XY _ _
theorem YD : ∀ l:List Nat,L8 (l.map AJ)=l.map AJ
 | []=>by simp [L8]
 | x::l=>by rw[List.map_cons,L8,YD l];rfl
theorem S8 {b b2 q1 q2:Bool} {m d:List Nat} {K:AV->Prop} (hk:K (.e7 [.agg [.bool b,.sl true (m.map AJ)],.agg [.bool b2,.sl true (d.map AJ)]])):BQ (.e7 [.agg [.bool b,.sl q1 (m.map AJ)],.agg [.bool b2,.sl q2 (d.map AJ)]]) K:=by
 refine nW (λ h=>h) (λ v hv => ?_) ?_
 ·simp only[List.mem_cons,List.not_mem_nil,or_false]at hv
  rcases hv with rfl|rfl<;>trivial
 ·have e:IQ (.e7 [.agg [.bool b,.sl q1 (m.map AJ)],.agg [.bool b2,.sl q2 (d.map AJ)]]) = .e7 [.agg [.bool b,.sl true (L8 (m.map AJ))],.agg [.bool b2,.sl true (L8 (d.map AJ))]]:=rfl
  rw[e,YD,YD];exact hk
theorem UQ {a b:Int} {d e:Nat} (hd:d≠0) (he:e≠0):mkRat a d+mkRat b e=mkRat (a*e+b*d) (d*e):=Rat.mkRat_add_mkRat a b hd he
theorem iT {a b:Int} {d:Nat} (hd:d≠0):mkRat a d+mkRat b d=mkRat (a+b) d:=by
 rw[UQ hd hd,<-Int.add_mul,Rat.mkRat_mul_right hd]
theorem iU (a b:Int) (d e:Nat):mkRat a d*mkRat b e=mkRat (a*b) (d*e):=Rat.mkRat_mul_mkRat a b d e
theorem iV (a:Int):mkRat a 1=(a:Rat):=by
 have h:=Rat.mkRat_self (a:Rat);rw[Rat.num_intCast,Rat.den_intCast]at h;exact h
theorem zX {z:Int} {d:Nat} (hd:d≠0):mkRat z d=0↔z=0:=Rat.mkRat_eq_zero hd
theorem iW {z:Int} {d:Nat} (hd:d≠0):v5 (mkRat z d).num=v5 z:=by
 obtain ⟨_,_,h⟩:=YO (z:=z) hd;have h0:(mkRat z d).num=0↔z=0:=by rw[Rat.num_eq_zero,zX hd]
 have h1:(mkRat z d).num<0↔z<0:=by simpa using h
 unfold v5;by_cases a:z<0
 ·rw[if_pos a,if_pos (h1.2 a)]
 ·rw[if_neg a,if_neg (λ h=>a (h1.1 h))]
  by_cases b:z=0
  ·rw[if_neg (by omega),if_neg (by have:=h0.2 b;omega)]
  ·rw[if_pos (by omega),if_pos (by have:=mt h0.1 b;have:=mt h1.1 a;omega)]
theorem Le {x y:Int} (hy:y≠0):zv (decide (x<0) != decide (y<0)) (dg x.natAbs)=y.sign*x:=by
 unfold zv;rw[BF];rcases Int.lt_or_gt_of_ne hy with h|h
 ·rw[Int.sign_eq_neg_one_of_neg h]
  by_cases hx:x<0
  ·simp [hx,h];omega
  ·simp [hx,h];omega
 ·rw[Int.sign_eq_one_of_pos h]
  by_cases hx:x<0
  ·simp [hx,show ¬ y<0 by omega];omega
  ·simp [hx,show ¬ y<0 by omega];omega
def Bt (k:Nat) (x:Rat):Prop:=x.num.natAbs<=2^k/\x.den<=2^k
theorem Bt.le {k l:Nat} {x:Rat} (h:Bt k x) (hl:k<=l):Bt l x:=by
 have:=Nat.pow_le_pow_right (show 0<2 by omega) hl
 exact ⟨Nat.le_trans h.1 this,Nat.le_trans h.2 this⟩
theorem Bt.mk {k:Nat} {z:Int} {d:Nat} (hz:z.natAbs<=2^k) (hd:d<=2^k):Bt k (mkRat z d):=by
 by_cases h0:d=0
 ·subst h0
  rw[Rat.mkRat_zero];exact ⟨by simp,by simp;exact Nat.one_le_two_pow⟩
 ·obtain ⟨e1,e2,_⟩:=YO (z:=z) h0
  unfold Bt;rw[e1,e2];exact ⟨Nat.le_trans (Nat.div_le_self _ _) hz,Nat.le_trans (Nat.div_le_self _ _) hd⟩
theorem Bt.add {k l:Nat} {x y:Rat} (hx:Bt k x) (hy:Bt l y):Bt (k+l+1) (x+y):=by
 rw[Rat.add_def'];refine Bt.mk ?_ ?_
 ·have h1:(x.num*y.den).natAbs<=2^k*2^l:=by rw[Int.natAbs_mul,Int.natAbs_natCast];exact Nat.mul_le_mul hx.1 hy.2
  have h2:(y.num*x.den).natAbs<=2^l*2^k:=by rw[Int.natAbs_mul,Int.natAbs_natCast];exact Nat.mul_le_mul hy.1 hx.2
  rw[Nat.mul_comm (2^l)]at h2;rw[Nat.pow_succ,Nat.pow_add];have h3:=Int.natAbs_add_le (x.num*y.den) (y.num*x.den);omega
 ·rw[Nat.pow_succ,Nat.pow_add]
  have:=Nat.mul_le_mul hx.2 hy.2
  omega
theorem Bt.mul {k l:Nat} {x y:Rat} (hx:Bt k x) (hy:Bt l y):Bt (k+l) (x*y):=by
 rw[Rat.mul_def'];refine Bt.mk ?_ ?_
 ·rw[Int.natAbs_mul,Nat.pow_add];exact Nat.mul_le_mul hx.1 hy.1
 ·rw[Nat.pow_add];exact Nat.mul_le_mul hx.2 hy.2
theorem Bt.zero (k:Nat):Bt k 0:=⟨by simp,by simp;exact Nat.one_le_two_pow⟩
theorem Bt.one (k:Nat):Bt k 1:=⟨by simp;exact Nat.one_le_two_pow,by simp;exact Nat.one_le_two_pow⟩
theorem Bt.Fh {k n:Nat} {x:Rat} (h:Bt k x) (hn:k<32*n):Sm n (dg x.num.natAbs)/\Sm n (dg x.den):=by
 have e:2^k<4294967296^n:=by
  rw[show 4294967296=2^32 from rfl,<-Nat.pow_mul];exact (Nat.pow_lt_pow_iff_right (by omega)).2 hn
 exact ⟨Sm.dg (Nat.lt_of_le_of_lt h.1 e),Sm.dg (Nat.lt_of_le_of_lt h.2 e)⟩
def Bs (k:Nat) (l:List Rat):Prop := ∀ x∈l,Bt k x
theorem Bs.at {k:Nat} {l:List Rat} (h:Bs k l) {i:Nat} {x:Rat} (hx:l[i]? = some x):Bt k x:=h x (zM hx)
theorem Bs.take {k:Nat} {l:List Rat} (h:Bs k l) (n:Nat):Bs k (l.take n):=λ x hx=>h x (List.mem_of_mem_take hx)
def B0:List Rat->List Rat->Rat
 | x::xs,y::ys=>x*y+B0 xs ys
 | _,_=>0
theorem dL : ∀ {a b:List Rat} {x y:Rat},a.length=b.length->B0 (a++[x]) (b++[y])=B0 a b+x*y
 | [],[],x,y,_=>by show x*y+0=0+x*y;rw[Rat.add_zero,Rat.zero_add]
 | p::a,q::b,x,y,h=>by
  show p*q+B0 (a++[x]) (b++[y])=p*q+B0 a b+x*y;rw[dL (by simpa using h),Rat.add_assoc]
theorem dM {a b:List Rat} {i:Nat} {x y:Rat} (hx:a[i]? = some x) (hy:b[i]? = some y):B0 (a.take (i+1)) (b.take (i+1))=B0 (a.take i) (b.take i)+x*y:=by
 have h1:=(zS hx).1;have h2:=(zS hy).1;rw[List.take_add_one,List.take_add_one,hx,hy,Option.toList_some,Option.toList_some,dL (by rw[List.length_take,List.length_take];omega)]
theorem dK {a b:List Rat} {n:Nat} (h:a.length=n):B0 (a.take n) (b.take n)=B0 a b:=by
 subst h;rw[zT (Nat.le_refl _)];induction a generalizing b with
 | nil=>cases b<;>rfl
 | cons x a ih=>cases b with
  | nil=>rfl
  | cons y b=>simp only[List.length_cons,List.take_succ_cons,B0,ih]
theorem Bs.dot {k l:Nat} : ∀ {a b:List Rat},Bs k a->Bs l b->Bt (a.length*(k+l+1)) (B0 a b)
 | [],b,_,_=>by cases b<;>exact Bt.zero _
 | x::a,[],_,_=>Bt.zero _
 | x::a,y::b,ha,hb=>by
  have h1:=(ha x (by simp)).mul (hb y (by simp));have h2:=Bs.dot (a:=a) (b:=b) (λ z hz=>ha z (by simp [hz])) (λ z hz=>hb z (by simp [hz]));refine (h1.add h2).le ?_;rw[List.length_cons,Nat.succ_mul];omega
structure C1 where
 a:List (List Rat)
 b:List Rat
 c:List Rat
 d:Rat
structure C1.Ok (S:C1) (n k:Nat):Prop where
 la:S.a.length=n
 lr : ∀ r∈S.a,r.length=n
 lb:S.b.length=n
 lc:S.c.length=n
 ba : ∀ r∈S.a,Bs k r
 bb:Bs k S.b
 bc:Bs k S.c
 bd:Bt k S.d
def C1.out (S:C1) (now:List Rat) (x:Rat):Rat:=B0 S.c now+S.d*x
def QK (now:List Rat) (x:Rat):List (List Rat)->List Rat->List Rat
 | r::a,b::bs=>(B0 r now+b*x)::QK now x a bs
 | _,_=>[]
def C1.next (S:C1) (now:List Rat) (x:Rat):List Rat:=QK now x S.a S.b
def C1.state (S:C1):List Rat->List Rat->List Rat
 | now,[]=>now
 | now,x::xs=>S.state (S.next now x) xs
def C1.outs (S:C1):List Rat->List Rat->List Rat
 | _,[]=>[]
 | now,x::xs=>S.out now x::S.outs (S.next now x) xs
theorem jC (now:List Rat) (x:Rat) : ∀ (a:List (List Rat)) (b:List Rat),a.length=b.length->(QK now x a b).length=a.length
 | [],[],_=>rfl
 | r::a,y::b,h=>by simp only[QK,List.length_cons];rw[jC now x a b (by simpa using h)]
theorem UT (now:List Rat) (x:Rat) : ∀ (a:List (List Rat)) (b:List Rat) (i:Nat) (r:List Rat) (y:Rat),a[i]? = some r->b[i]? = some y->(QK now x a b)[i]? = some (B0 r now+y*x)
 | [],_,i,r,y,h,_=>by simp at h
 | _::_,[],i,r,y,_,h=>by simp at h
 | r0::a,y0::b,0,r,y,h,h'=>by
  simp at h h';subst h;subst h';rfl
 | r0::a,y0::b,i+1,r,y,h,h'=>by
  simp only[QK,List.getElem?_cons_succ]at h h' ⊢;exact UT now x a b i r y h h'
theorem Z0 (S:C1) (x:Rat) : ∀ (xs now:List Rat),S.state now (xs++[x])=S.next (S.state now xs) x
 | [],_=>rfl
 | y::xs,now=>Z0 S x xs (S.next now y)
theorem U2 (S:C1) (x:Rat) : ∀ (xs now:List Rat),S.outs now (xs++[x])=S.outs now xs++[S.out (S.state now xs) x]
 | [],_=>rfl
 | y::xs,now=>by
  show S.out now y::S.outs (S.next now y) (xs++[x])=_;rw[U2 S x xs (S.next now y)];rfl
theorem U1 (S:C1) : ∀ (xs now:List Rat),(S.outs now xs).length=xs.length
 | [],_=>rfl
 | y::xs,now=>by simp only[C1.outs,List.length_cons,U1 S xs]
theorem C1.Ok.az {S:C1} {n k:Nat} (h:S.Ok n k) (now:List Rat) (x:Rat):(S.next now x).length=n:=by
 unfold C1.next;rw[jC _ _ _ _ (by rw[h.la,h.lb]),h.la]
theorem C1.Ok.bp {S:C1} {n k:Nat} (h:S.Ok n k) : ∀ (xs now:List Rat),now.length=n->(S.state now xs).length=n
 | [],_,hn=>hn
 | x::xs,now,_=>h.bp xs _ (h.az now x)
def D4:Nat->List Rat
 | 0=>[]
 | n+1=>1::List.replicate n 0
theorem gQ (n:Nat):(D4 n).length=n:=by cases n<;>simp [D4]
theorem X6 (k n:Nat):Bs k (D4 n):=by
 intro x hx;cases n with
 | zero=>simp [D4]at hx
 | succ n =>
  simp only[D4,List.mem_cons,List.mem_replicate]at hx;rcases hx with rfl|⟨_,rfl⟩
  ·exact Bt.one k
  ·exact Bt.zero k
def EQ (n:Nat) (j:Int):List Rat:=(List.range n).map λ i:Nat=>if (i:Int)=j then 1 else 0
theorem lR (n:Nat) (j:Int):(EQ n j).length=n:=by simp [EQ]
theorem Kj (n:Nat) (j:Int):EQ (n+1) j=EQ n j++[if (n:Int)=j then 1 else 0]:=by simp [EQ,List.range_succ]
theorem Ki (n:Nat):EQ n (-1)=List.replicate n 0:=by
 refine List.ext_getElem? λ i => ?_
 simp only[EQ,List.getElem?_map,List.getElem?_replicate,List.getElem?_range];by_cases h:i<n
 ·rw[List.getElem?_range h,if_pos h]
  simp
 ·rw[List.getElem?_eq_none (by simp;omega),if_neg h];rfl
theorem Kk (n:Nat):EQ n 0=D4 n:=by
 refine List.ext_getElem? λ i => ?_
 cases n with
 | zero=>simp [EQ,D4]
 | succ n =>
  simp only[EQ,List.getElem?_map,D4];cases i with
  | zero=>rw[List.getElem?_range (by omega)];simp
  | succ i =>
   rw[List.getElem?_cons_succ,List.getElem?_replicate];by_cases h:i<n
   ·rw[List.getElem?_range (by omega),if_pos h]
    simp
   ·rw[List.getElem?_eq_none (by simp;omega),if_neg h];rfl
abbrev eO:Option Rat->List AV
 | none=>[.bool false,.nil,.nil]
 | some x=>eQ x
def EH (l:List Rat) (m:Nat):List (Option Rat):=l.map some++List.replicate (m-l.length) none
theorem L5 (m:Nat):EH [] m=List.replicate m none:=by simp [EH]
theorem JC {l:List Rat} {m:Nat} (h:l.length<=m):(EH l m).length=m:=by simp [EH];omega
theorem L6 {l:List Rat} {m:Nat} {x:Rat} (h:l.length<m):(EH l m).set l.length (some x)=EH (l++[x]) m:=by
 unfold EH;have e:m-l.length=(m-(l++[x]).length)+1:=by simp;omega
 rw[e,List.replicate_succ,List.set_append_right _ _ (by simp)];simp
theorem L4 {l:List Rat} {m:Nat} (h:l.length=m):(EH l m).map eO=l.map eQ:=by
 unfold EH;rw[h,Nat.sub_self];simp [Function.comp_def]
abbrev eS (S:C1):List AV:=[.sl false (S.a.map λ r=>[AV.sl false (r.map eQ)]),.sl false (S.b.map eQ),.sl false (S.c.map eQ)]++eQ S.d
theorem I4 (l:List Rat):FB (l.map eQ):=TY (λ x=>by simp only[CG,AZ,and_true,true_and];exact ⟨CR _,CR _⟩) l
theorem I1 {l:List Rat} {i:Nat} {x:Rat} (h:l[i]? = some x):l.take (i+1)=l.take i++[x]:=by
 rw[List.take_add_one,h];rfl
theorem PZ (a b:List Rat) (e:Int):AZ (.e7 [.sl false (a.map eQ),.sl false (b.map eQ),.int .i64 e]):=by
 simp only[AZ,CG,and_true,true_and];exact ⟨I4 a,I4 b⟩
theorem OG (a:List Rat) (e:Int):AZ (.e7 [.sl false (a.map eQ),.int .i64 e]):=by
 simp only[AZ,CG,and_true,true_and];exact I4 a
def QP (N:Nat):List HU->Bool
 | []=>true
 | .tmp t::r=>Nat.blt t N&&QP N r
 | .cell t _ _::r=>Nat.blt t N&&QP N r
theorem ZD {N:Nat} {s s':St} (ho:s.own=s'.own) (gx : ∀ j,j<N->c6 s'.tm j=c6 s.tm j) : ∀ {res:List HU},QP N res=true->res.mapM (D7 s)=res.mapM (D7 s')
 | [],_=>rfl
 | .tmp t::r,h=>by
  simp only[QP,Bool.and_eq_true]at h;have:=ZD ho gx h.2
  simp only[List.mapM_cons,D7,gx t (OC.1 h.1),this]
 | .cell t agg n::r,h=>by
  simp only[QP,Bool.and_eq_true]at h;have:=ZD ho gx h.2
  simp only[List.mapM_cons,D7,gx t (OC.1 h.1),this,ho]
def oL (N:Nat) (fn:AFn) (tm:Tm) (K:AV->Mem->Prop) (u7:Tm) (M':Mem):Prop:=gh N u7=tm/\U8 u7 M' fn.res (λ rs=>Hv rs λ v=>K v M')
theorem ES {L:Lib} {f:Nat} {fn:AFn} {vs:List AV} {tm:Tm} {M:Mem} {K:AV->Mem->Prop} (N:Nat) (hL:L f=some fn) (hp:Nat.beq vs.length fn.u6=true) (hN:(Nat.ble fn.u6 N&&(GT N fn.body&&QP N fn.res))=true)
  (h:AA L [.code fn.body] (BX 0 vs++FH N tm) M (oL N fn tm K)):A5 L f vs tm M K:=by
 intro σ own hs;simp only[Bool.and_eq_true]at hN;obtain ⟨n1,n2,n3⟩:=hN;have n1:=Nat.le_of_ble_eq_true n1;have hp:vs.length=fn.u6:=Nat.eq_of_beq_eq_true hp;have Ef:RX σ (BX 0 vs++FH N tm) M ⟨JV (A7 σ) (BX 0 vs++FH N tm),own⟩:=⟨λ j=>Or.inr (by rw[ID];exact IE (IZ σ) j _),hs⟩;obtain ⟨n,c,s',hr,σ',u7,M',hR,hg,na⟩:=h σ _ Ef;have Cr:Gh N (JV (A7 σ) (FH N tm)) (BX 0 (vs.map (A7 σ))) (JV (A7 σ) (BX 0 vs++FH N tm)):=by
  constructor
  ·intro j hj
   rw[X8,IE (IZ σ),IE (IZ σ)];rcases SZ j (FH N tm) (BX 0 vs) with ⟨_,e⟩|⟨hn,e⟩
   ·rw[e]
   ·rw[e,aA hj,Z8 j 0 vs hn]
  ·intro j hj
   rw[IE (IZ σ),IE (IZ σ)];rcases SZ j (FH N tm) (BX 0 vs) with ⟨hn,e⟩|⟨_,e⟩
   ·have:=X7 j 0 vs hn
    omega
   ·rw[e]
 obtain ⟨s,r1,r2,r3⟩:=HH n (by simp [NL,n2]) Cr hr;obtain ⟨rs,i1,i2,i3⟩:=ZC hR na;rw[<-ZD (s:=s) r2.symm r3.lo n3,i3]at i1;have key : ∃ r,GM (rs.map (BC σ'))=A7 σ' r/\K r M':=by
  match rs,i2,i3 with
  | [],h,_=>exact ⟨.e7 [],rfl,h⟩
  | [v],h,e =>
   simp only[List.map_cons,List.map_nil,List.cons.injEq,and_true]at e;exact ⟨v,by simp only[List.map_cons,List.map_nil,GM];exact e.symm,h⟩
  | a::b::l,h,_=>exact ⟨.e7 (a::b::l),rfl,h⟩
 obtain ⟨r,k1,k2⟩:=key;refine ⟨r,s.own,σ',M',FM.intro hL (by simpa using hp) ⟨n,c,s,r1,?_,rfl⟩,?_,?_,k2⟩
 ·rw[i1,Option.map_some,k1]
 ·rw[<-r2];exact hR.sat
 ·intro j
  have e1:tg tm j=tg u7 (N+j):=by rw[ID,ID,<-hg,Z7]
  rcases hR.tm (N+j) with e|e
  ·rw[e1,e];rfl
  ·rw[e1,<-e,r3.hi (N+j) (by omega),IE (IZ σ),Z9,<-ID,e1]
def GJ (m:List (List Rat)) (j:Nat):List Rat:=m.map λ r=>r.getD j 0
def MV (r:List Rat) (m:List (List Rat)) (n:Nat):List Rat:=(List.range n).map λ j=>B0 r (GJ m j)
def FO (a m:List (List Rat)) (n:Nat):List (List Rat):=a.map λ r=>MV r m n
def I2 (m:List (List Rat)):Nat->Rat
 | 0=>0
 | i+1=>I2 m i+(m.getD i []).getD i 0
def w4 (m:List (List Rat)) (c:Rat) (i:Nat):List (List Rat):=(List.range m.length).map λ r=>if r<i then (m.getD r []).set r ((m.getD r []).getD r 0+c) else m.getD r []
def R5 (n:Nat):List (List Rat):=(List.range n).map λ i:Nat=>EQ n i
def cP (p:List (List Rat)) (n k:Nat):Rat:=I2 p n*Rat.divInt (-1) (k:Int)
def EY (a:List (List Rat)) (n:Nat):Nat->List (List Rat)
 | 0=>R5 n
 | k+1=>w4 (FO a (EY a n k) n) (cP (FO a (EY a n k) n) n (k+1)) n
def OI (a:List (List Rat)) (n k:Nat):Rat:=cP (FO a (EY a n k) n) n (k+1)
def EK (a:List (List Rat)) (n k:Nat):List Rat:=1::(List.range k).map (OI a n)
def H6 (m:List (List Rat)) (b:List Rat):List Rat:=m.map λ r=>B0 r b
def HZ (S:C1) (n k:Nat):List Rat:=0::(List.range k).map λ i=>B0 S.c (H6 (EY S.a n i) S.b)
theorem rF (m:List (List Rat)) (j:Nat):(GJ m j).length=m.length:=by simp [GJ]
theorem jA (r:List Rat) (m:List (List Rat)) (n:Nat):(MV r m n).length=n:=by simp [MV]
theorem Jm (a m:List (List Rat)) (n:Nat):(FO a m n).length=a.length:=by simp [FO]
theorem OA (m:List (List Rat)) (c:Rat) (i:Nat):(w4 m c i).length=m.length:=by simp [w4]
theorem Jo (m:List (List Rat)) (b:List Rat):(H6 m b).length=m.length:=by simp [H6]
theorem WH (a:List (List Rat)) (n k:Nat):(EK a n k).length=k+1:=by simp [EK]
theorem WC (S:C1) (n k:Nat):(HZ S n k).length=k+1:=by simp [HZ]
theorem qH (a:List (List Rat)) (n k:Nat):EK a n (k+1)=EK a n k++[OI a n k]:=by simp [EK,List.range_succ]
theorem pR (S:C1) (n k:Nat):HZ S n (k+1)=HZ S n k++[B0 S.c (H6 (EY S.a n k) S.b)]:=by simp [HZ,List.range_succ]
structure Sq (n:Nat) (m:List (List Rat)):Prop where
 l:m.length=n
 r : ∀ r∈m,r.length=n
theorem Sq.at {n:Nat} {m:List (List Rat)} (h:Sq n m) {i:Nat} {r:List Rat} (hr:m[i]? = some r):r.length=n:=h.r r (zM hr)
theorem Sq.mul {n:Nat} {a:List (List Rat)} (h:a.length=n) (m:List (List Rat)):Sq n (FO a m n):=by
 refine ⟨by rw[Jm,h],λ r hr => ?_⟩;obtain ⟨x,_,rfl⟩:=List.mem_map.1 hr;exact jA _ _ _
theorem RD {m:List (List Rat)} {c:Rat} {i r:Nat} {row:List Rat} (h:m[r]? = some row):(w4 m c i)[r]? = some (if r<i then row.set r (row.getD r 0+c) else row):=by
 have h1:=(zS h).1;have e:m.getD r []=row:=by rw[List.getD_eq_getElem?_getD,h];rfl
 simp only[w4,List.getElem?_map,List.getElem?_range h1,Option.map_some,e]
theorem Sq.w4 {n:Nat} {m:List (List Rat)} (h:Sq n m) (c:Rat) (i:Nat):Sq n (w4 m c i):=by
 refine ⟨by rw[OA,h.l],λ r hr => ?_⟩;obtain ⟨j,hj⟩:=List.getElem?_of_mem hr;have h1:=(zS hj).1;rw[OA]at h1;obtain ⟨row,q6⟩ : ∃ row,m[j]? = some row:=⟨_,zE h1⟩;rw[RD q6]at hj;obtain rfl:=Option.some.inj hj;have:=h.at q6
 split
 ·rw[List.length_set];exact this
 ·exact this
theorem pU (m:List (List Rat)) (c:Rat):w4 m c 0=m:=by
 refine List.ext_getElem? λ r => ?_
 cases e:m[r]? with
 | none=>rw[List.getElem?_eq_none (by rw[OA];exact List.getElem?_eq_none_iff.1 e)]
 | some row=>rw[RD e,if_neg (by omega)]
theorem pT {m:List (List Rat)} {c:Rat} {i:Nat} {row:List Rat} (h:m[i]? = some row):w4 m c (i+1)=(w4 m c i).set i (row.set i (row.getD i 0+c)):=by
 refine List.ext_getElem? λ r => ?_
 rw[List.getElem?_set];cases e:m[r]? with
 | none =>
  have h1:=List.getElem?_eq_none_iff.1 e;have h2:=(zS h).1;rw[List.getElem?_eq_none (by rw[OA];exact h1),if_neg (by omega),List.getElem?_eq_none (by rw[OA];exact h1)]
 | some jc =>
  rw[RD e,RD e];by_cases hi:i=r
  ·subst hi
   obtain rfl:=Option.some.inj (h.symm.trans e);have h2:=(zS h).1;rw[if_pos (by omega),if_pos rfl,if_pos (by rw[OA];exact h2)]
  ·rw[if_neg hi]
   by_cases h3:r<i
   ·rw[if_pos (by omega),if_pos h3]
   ·rw[if_neg (by omega),if_neg h3]
theorem pS {m:List (List Rat)} {c:Rat} {i:Nat} {row:List Rat} (h:m[i]? = some row):(w4 m c i)[i]? = some row:=by rw[RD h,if_neg (by omega)]
theorem Sq.id (n:Nat):Sq n (R5 n):=by
 refine ⟨by simp [R5],λ r hr => ?_⟩;obtain ⟨i,_,rfl⟩:=List.mem_map.1 hr;exact lR _ _
theorem Sq.fl {n:Nat} {a:List (List Rat)} (h:a.length=n) : ∀ k,Sq n (EY a n k)
 | 0=>Sq.id n
 | k+1=>(Sq.mul h _).w4 _ _
def Ms (k:Nat) (m:List (List Rat)):Prop := ∀ r∈m,Bs k r
theorem Ms.at {k:Nat} {m:List (List Rat)} (h:Ms k m) {i:Nat} {r:List Rat} (hr:m[i]? = some r):Bs k r:=h r (zM hr)
theorem Ms.Bi {k:Nat} {m:List (List Rat)} (h:Ms k m) (j:Nat):Bs k (GJ m j):=by
 intro x hx;obtain ⟨r,hr,rfl⟩:=List.mem_map.1 hx;rw[List.getD_eq_getElem?_getD];cases e:r[j]? with
 | none=>exact Bt.zero k
 | some x=>exact (h r hr).at e
theorem qN {k:Nat} (hk:k<=7):Bt 3 (Rat.divInt (-1) (k:Int)):=by
 rw[Rat.divInt_ofNat];refine Bt.mk ?_ ?_
 ·decide
 ·show k<=8;omega
def conv (A h:Nat->Rat) (K:Nat):Nat->Rat
 | 0=>0
 | a+1=>conv A h K a+A a*h (K-a)
end Go.c8

namespace Go.c8
section
variable {m0 m:List (List Rat)} {K W Mj c:Nat} {P:List Nat} {odd:Bool} {l:Rat}
end
end Go.c8

namespace Go.c8
def B4 (D M:Nat) (x:Rat):Prop := ∃ z:Int,x*((D:Int):Rat)=(z:Rat)/\z.natAbs<=M
theorem B4.zero (D M:Nat):B4 D M 0:=⟨0,by rw[Rat.zero_mul];rfl,by simp⟩
theorem B4.le {D M N:Nat} {x:Rat} (h:B4 D M x) (hn:M<=N):B4 D N x:=by
 obtain ⟨z,h1,h2⟩:=h;exact ⟨z,h1,Nat.le_trans h2 hn⟩
theorem B4.mul {D E M N:Nat} {x y:Rat} (hx:B4 D M x) (hy:B4 E N y):B4 (D*E) (M*N) (x*y):=by
 obtain ⟨z,h1,h2⟩:=hx;obtain ⟨w,h3,h4⟩:=hy;refine ⟨z*w,?_,by rw[Int.natAbs_mul];exact Nat.mul_le_mul h2 h4⟩;rw[Int.natCast_mul,Rat.intCast_mul,Rat.intCast_mul,<-h1,<-h3];grind
theorem B4.add {D M N:Nat} {x y:Rat} (hx:B4 D M x) (hy:B4 D N y):B4 D (M+N) (x+y):=by
 obtain ⟨z,h1,h2⟩:=hx;obtain ⟨w,h3,h4⟩:=hy;refine ⟨z+w,?_,Nat.le_trans (Int.natAbs_add_le _ _) (Nat.add_le_add h2 h4)⟩;rw[Rat.intCast_add,<-h1,<-h3];grind
theorem B4.up {D M:Nat} {x:Rat} (h:B4 D M x) (E:Nat):B4 (D*E) (M*E) x:=by
 have h1:B4 E E 1:=⟨E,by rw[Rat.one_mul],by simp⟩;have:=h.mul h1
 rwa [Rat.mul_one]at this
theorem B4.bt {D M k:Nat} {x:Rat} (h:B4 D M x) (h0:D≠0) (hD:D<=2^k) (hM:M<=2^k):Bt k x:=by
 obtain ⟨z,h1,h2⟩:=h;have hd:((D:Int):Rat)≠0:=by
  intro e;have:(D:Int)=0:=by exact_mod_cast e
  omega
 have e:x=mkRat z D:=by
  rw[Rat.mkRat_eq_div,<-h1,Rat.div_def];have:=Rat.mul_inv_cancel _ hd
  rw[show ((D:Nat):Rat)=((D:Int):Rat) from rfl,Rat.mul_assoc,this,Rat.mul_one]
 rw[e];exact Bt.mk (Nat.le_trans h2 hM) hD
theorem aD {D E M N:Nat} : ∀ (r y:List Rat),(∀ x∈r,B4 D M x)->(∀ x∈y,B4 E N x)->B4 (D*E) (r.length*(M*N)) (B0 r y)
 | [],_,_,_=>B4.zero _ _
 | _::_,[],_,_=>B4.zero _ _
 | a::r,b::y,h1,h2=>by
  rw[B0,List.length_cons,Nat.succ_mul,Nat.add_comm];exact ((h1 a (by simp)).mul (h2 b (by simp))).add (aD r y (λ x hx=>h1 x (by simp [hx])) (λ x hx=>h2 x (by simp [hx])))
theorem Kv {S:C1} {n k D m j:Nat} (h:S.Ok n k) (jx:D<=2^m) (ha : ∀ r∈S.a,∀ x∈r,B4 D (2^m) x) (hb : ∀ x∈S.b,B4 D (2^m) x) {now:List Rat} {x:Rat} (hx:x=0\/x=1) (hn : ∀ x∈now,B4 (D^j) (2^(j*(m+n+1))) x) : ∀ y∈S.next now x,B4 (D^(j+1)) (2^((j+1)*(m+n+1))) y:=by
 intro y hy;obtain ⟨i,hi⟩:=List.getElem?_of_mem hy;have z8:=(zS hi).1;rw[h.az]at z8;obtain ⟨r,hr⟩ : ∃ r,S.a[i]? = some r:=⟨_,zE (by rw[h.la];exact z8)⟩;obtain ⟨b,kv⟩ : ∃ b,S.b[i]? = some b:=⟨_,zE (by rw[h.lb];exact z8)⟩;have e:=UT now x S.a S.b i r b hr kv;rw[C1.next]at hi;rw[hi]at e;obtain rfl:=Option.some.inj e;have h1:=aD r now (ha r (zM hr)) hn;rw[h.lr r (zM hr)]at h1;have h2:B4 (D*D^j) (2^m*D^j) (b*x):=by
  rcases hx with rfl|rfl
  ·rw[Rat.mul_zero];exact B4.zero _ _
  ·rw[Rat.mul_one];exact (hb b (zM kv)).up _
 have h3:=h1.add h2;rw[show D*D^j=D^(j+1) by rw[Nat.pow_succ,Nat.mul_comm]]at h3;refine h3.le ?_;have g1:D^j<=2^(j*(m+n+1)):=by
  refine Nat.le_trans (Nat.pow_le_pow_left jx j) ?_;rw[<-Nat.pow_mul];refine Nat.pow_le_pow_right (by omega) ?_;rw[Nat.mul_comm];exact Nat.mul_le_mul_left j (by omega)
 have g2:n+1<=2^n:=Nat.lt_two_pow_self;have g3:2^((j+1)*(m+n+1))=2*(2^n*(2^m*2^(j*(m+n+1)))):=by
  rw[Nat.succ_mul,Nat.pow_add,Nat.pow_add,Nat.pow_add];generalize 2^(j*(m+n+1))=P;generalize 2^m=A;generalize 2^n=B;grind
 rw[g3];generalize 2^(j*(m+n+1))=P at *;have g4:2^m*D^j<=2^m*P:=Nat.mul_le_mul_left _ g1;generalize 2^m*P=T at *;have g5:(n+1)*T<=2^n*T:=zR T g2;rw[Nat.succ_mul]at g5;omega
theorem lZ {S:C1} {n k D m:Nat} (h:S.Ok n k) (jx:D<=2^m) (ha : ∀ r∈S.a,∀ x∈r,B4 D (2^m) x) (hb : ∀ x∈S.b,B4 D (2^m) x) : ∀ (xs now:List Rat) (j:Nat),(∀ x∈xs,x=0\/x=1)->(∀ x∈now,B4 (D^j) (2^(j*(m+n+1))) x) -> ∀ x∈S.state now xs,B4 (D^(j+xs.length)) (2^((j+xs.length)*(m+n+1))) x
 | [],_,_,_,hn=>hn
 | x::xs,now,j,hx,hn=>by
  have:=lZ h jx ha hb xs _ (j+1) (λ z hz=>hx z (by simp [hz])) (Kv h jx ha hb (hx x (by simp)) hn)
  rw[show j+1+xs.length=j+(x::xs).length by rw[List.length_cons];omega]at this;exact this
def EX:List Rat->Nat
 | []=>1
 | x::l=>x.den*EX l
theorem WX : ∀ l:List Rat,1<=EX l
 | []=>Nat.le_refl _
 | x::l=>Nat.mul_pos x.den_pos (WX l)
theorem cW : ∀ {l:List Rat} {x:Rat},x∈l -> ∃ e,EX l=x.den*e
 | y::l,x,h=>by
  rcases List.mem_cons.1 h with rfl|h
  ·exact ⟨_,rfl⟩
  ·obtain ⟨e,he⟩:=cW h
   exact ⟨y.den*e,by rw[EX,he,<-Nat.mul_assoc,<-Nat.mul_assoc,Nat.mul_comm y.den]⟩
theorem Jn (y:Rat):y*(y.den:Rat)=(y.num:Rat):=by
 have h:=Rat.num_divInt_den y;rw[Rat.divInt_eq_div]at h;have h0:((y.den:Int):Rat)≠0:=λ e=>by
  have:((y.den:Int):Rat)=((0:Int):Rat):=e
  have:=Rat.intCast_inj.1 this
  have:=y.den_pos
  omega
 have h2:=Rat.div_mul_cancel h0 (a:=(y.num:Rat));rw[h,Rat.intCast_natCast]at h2;exact h2
theorem lY {l:List Rat} {x:Rat} {k m:Nat} (hx:x∈l) (hb:Bt k x) (hD:EX l<=2^m):B4 (EX l) (2^(k+m)) x:=by
 obtain ⟨e,he⟩:=cW hx;refine ⟨x.num*e,?_,?_⟩
 ·rw[he,Int.natCast_mul,Rat.intCast_mul,Rat.intCast_mul,<-Rat.mul_assoc]
  congr 1;exact Jn x
 ·have h1:e<=EX l:=by rw[he];exact Nat.le_mul_of_pos_left e x.den_pos
  rw[Int.natAbs_mul,Int.natAbs_natCast,Nat.pow_add];exact Nat.mul_le_mul hb.1 (Nat.le_trans h1 hD)
end Go.c8

namespace Go.c8
theorem Lo {S:C1} {n k:Nat} (h:S.Ok n k) (hD:EX (S.a.flatten++S.b)<=2^k) {xs:List Rat} (hx : ∀ x∈xs,x=0\/x=1):Bs (xs.length*(2*k+n+1)) (S.state (List.replicate n 0) xs):=by
 obtain ⟨m,hm⟩ : ∃ m,m=2*k:=⟨_,rfl⟩;rw[<-hm];have dt:Bs k (S.a.flatten++S.b):=λ x hx=>by
  rcases List.mem_append.1 hx with h1|h1
  ·obtain ⟨r,hr,Pu⟩:=List.mem_flatten.1 h1
   exact h.ba r hr x Pu
  ·exact h.bb x h1
 have jx:EX (S.a.flatten++S.b)<=2^m:=Nat.le_trans hD (Nat.pow_le_pow_right (by omega) (by omega));have hw : ∀ x∈S.a.flatten++S.b,B4 (EX (S.a.flatten++S.b)) (2^m) x:=λ x hx=>(lY hx (dt x hx) hD).le (Nat.pow_le_pow_right (by omega) (by omega))
 have h1:=lZ h jx (λ r hr x hx=>hw x (List.mem_append.2 (Or.inl (List.mem_flatten.2 ⟨r,hr,hx⟩)))) (λ x hx=>hw x (List.mem_append.2 (Or.inr hx))) xs (List.replicate n 0) 0 hx (λ x hx=>by rw[List.eq_of_mem_replicate hx];exact B4.zero _ _);rw[Nat.zero_add]at h1;intro x hx;have h2:=h1 x hx;refine h2.bt (Nat.pos_iff_ne_zero.1 (Nat.pow_pos (WX _))) (Nat.le_trans (Nat.pow_le_pow_left jx _) ?_) (Nat.le_refl _);rw[<-Nat.pow_mul];refine Nat.pow_le_pow_right (by omega) ?_;rw[Nat.mul_comm];exact Nat.mul_le_mul_left _ (by omega)
def MW (D M:Nat) (m:List (List Rat)):Prop := ∀ r∈m,∀ x∈r,B4 D M x
theorem MW.getD {D M:Nat} {m:List (List Rat)} (h:MW D M m) (i j:Nat):B4 D M ((m.getD i []).getD j 0):=by
 rw[List.getD_eq_getElem?_getD,List.getD_eq_getElem?_getD];cases e:m[i]? with
 | none=>exact B4.zero _ _
 | some r =>
  simp only[Option.getD_some];cases e2:r[j]? with
  | none=>exact B4.zero _ _
  | some x=>exact h r (zM e) x (zM e2)
theorem MW.Bi {D M:Nat} {m:List (List Rat)} (h:MW D M m) (j:Nat) : ∀ x∈GJ m j,B4 D M x:=λ x hx=>by
 obtain ⟨r,hr,rfl⟩:=List.mem_map.1 hx;rw[List.getD_eq_getElem?_getD];cases e:r[j]? with
 | none=>exact B4.zero _ _
 | some x=>exact h r hr x (zM e)
theorem MW.mul {D E M N n:Nat} {a m:List (List Rat)} (ha:MW D M a) (qk : ∀ r∈a,r.length=n) (hm:MW E N m):MW (D*E) (n*(M*N)) (FO a m n):=λ r hr x hx=>by
 obtain ⟨s,hs,rfl⟩:=List.mem_map.1 hr;obtain ⟨j,_,rfl⟩:=List.mem_map.1 hx;have:=aD s (GJ m j) (ha s hs) (hm.Bi j)
 rwa [qk s hs]at this
theorem MW.tr {D M:Nat} {m:List (List Rat)} (h:MW D M m) : ∀ i,B4 D (i*M) (I2 m i)
 | 0=>B4.zero _ _
 | i+1=>by
  rw[I2,Nat.add_mul,Nat.one_mul];exact (h.tr i).add (h.getD i i)
theorem MW.w4 {D M N:Nat} {m:List (List Rat)} {c:Rat} (h:MW D M m) (hc:B4 D N c) (i:Nat):MW D (M+N) (w4 m c i):=λ r hr x hx=>by
 obtain ⟨j,hj,rfl⟩:=List.mem_map.1 hr;have z9:=List.mem_range.1 hj;have kg:m.getD j []∈m:=by rw[List.getD_eq_getElem?_getD,zE z9];exact List.getElem_mem z9
 split at hx
 ·rcases List.mem_or_eq_of_mem_set hx with hx|rfl
  ·exact (h _ kg x hx).le (by omega)
  ·exact (h.getD j j).add hc
 ·exact (h _ kg x hx).le (by omega)
theorem mA (k:Nat) (hk:1<=k):B4 k 1 (Rat.divInt (-1) (k:Int)):=by
 refine ⟨-1,?_,by decide⟩;have h0:((k:Int):Rat)≠0:=λ e=>by
  have:((k:Int):Rat)=((0:Int):Rat):=e
  have:=Rat.intCast_inj.1 this
  omega
 rw[Rat.divInt_eq_div];exact Rat.div_mul_cancel h0
def GY:Nat->Nat
 | 0=>1
 | k+1=>GY k*(k+1)
theorem xY (n:Nat):MW 1 1 (R5 n):=λ r hr x hx=>by
 obtain ⟨i,_,rfl⟩:=List.mem_map.1 hr;simp only[EQ,List.mem_map]at hx;obtain ⟨j,_,rfl⟩:=hx;split
 ·exact ⟨1,by rw[Rat.one_mul];rfl,by decide⟩
 ·exact (B4.zero 1 1)
section
variable {a:List (List Rat)} {n D m:Nat}
theorem XX (ha:MW D (2^m) a) (qk : ∀ r∈a,r.length=n) (hn:n<=5) : ∀ k,k<=5->MW (D^k*GY k) (2^(k*(m+6))) (EY a n k)
 | 0,_=>by
  rw[GY,Nat.zero_mul,Nat.pow_zero,Nat.pow_zero];exact xY n
 | k+1,hk=>by
  have ih:=XX ha qk hn k (by omega);have h1:=ha.mul qk ih;have h2:=(h1.tr n).mul (mA (k+1) (by omega));have h3:MW (D*(D^k*GY k)*(k+1)) (n*(2^m*2^(k*(m+6)))*(k+1)) (FO a (EY a n k) n):=λ r hr x hx=>(h1 r hr x hx).up (k+1)
  have h4:=h3.w4 h2 n;have e1:D^(k+1)*GY (k+1)=D*(D^k*GY k)*(k+1):=by rw[GY,Nat.pow_succ];grind
  have e2:n*(2^m*2^(k*(m+6)))*(k+1)+n*(n*(2^m*2^(k*(m+6))))*1<=2^((k+1)*(m+6)):=by
   rw[Nat.add_mul k 1,Nat.one_mul,Nat.pow_add 2 (k*(m+6)),Nat.pow_add 2 m 6];generalize 2^(k*(m+6))=P;generalize 2^m=A;have g1:n*(A*P)<=5*(A*P):=zR _ hn;have g2:n*(A*P)*(k+1)<=5*(A*P)*5:=Nat.mul_le_mul g1 (by omega);have g3:n*(n*(A*P))<=5*(5*(A*P)):=Nat.mul_le_mul hn g1;have g4:P*(A*2^6)=64*(A*P):=by grind
   omega
  rw[e1];intro r hr x hx;exact (h4 r hr x hx).le e2
theorem wV {k:Nat} (ha:MW D (2^m) a) (qk : ∀ r∈a,r.length=n) (hn:n<=5) (h0:D≠0) (hD:D<=2^k) (Oc:k<=m) :
  (∀ j,j<=n->Ms (5*m+50) (EY a n j))/\(∀ j,j<n->Ms (5*m+50) (FO a (EY a n j) n))/\(∀ j,j<n->Bt (5*m+50) (OI a n j))/\(∀ j,j<n -> ∀ e,e<=n->Bt (5*m+50) (I2 (FO a (EY a n j) n) e)):=by
 have gf : ∀ j,j<=5->GY j<=120/\GY j≠0:=λ j hj=>by
  have:j=0\/j=1\/j=2\/j=3\/j=4\/j=5:=by omega
  rcases this with rfl|rfl|rfl|rfl|rfl|rfl<;>decide
 have Mm:D<=2^m:=Nat.le_trans hD (Nat.pow_le_pow_right (by omega) Oc);have gb : ∀ j,j<=5 -> ∀ f,f<=120->D^j*f<=2^(5*m+50):=λ j hj f hf=>by
  have g1:D^j<=2^(m*5):=by
   refine Nat.le_trans (Nat.pow_le_pow_left Mm j) ?_;rw[<-Nat.pow_mul];exact Nat.pow_le_pow_right (by omega) (Nat.mul_le_mul_left m hj)
  have g2:2^(5*m+50)=2^(m*5)*2^50:=by rw[Nat.mul_comm 5 m,Nat.pow_add]
  rw[g2];exact Nat.mul_le_mul g1 (Nat.le_trans hf (by decide))
 have Du : ∀ j,j<=5->2^(j*(m+6))<=2^(5*m+30):=λ j hj=>Nat.pow_le_pow_right (by omega) (Nat.le_trans (zR _ hj) (by omega))
 have Dw : ∀ j,j<5 -> ∀ c,c<=2^20->c*(2^m*2^(j*(m+6)))<=2^(5*m+50):=λ j hj c hc=>by
  have g1:2^m*2^(j*(m+6))<=2^(5*m+30):=by
   rw[<-Nat.pow_add];refine Nat.pow_le_pow_right (by omega) ?_;have:=zR (m+6) (show j<=4 by omega)
   omega
  have g2:2^(5*m+50)=2^20*2^(5*m+30):=by rw[<-Nat.pow_add];congr 1;omega
  rw[g2];exact Nat.mul_le_mul hc g1
 have nz : ∀ j f,f≠0->D^j*f≠0:=λ j f hf=>Nat.mul_ne_zero (Nat.pos_iff_ne_zero.1 (Nat.pow_pos (Nat.pos_of_ne_zero h0))) hf
 have hP : ∀ j,j<5->MW (D^(j+1)*GY j) (n*(2^m*2^(j*(m+6)))) (FO a (EY a n j) n):=λ j hj=>by
  have:=ha.mul qk (XX ha qk hn j (by omega))
  rwa [show D*(D^j*GY j)=D^(j+1)*GY j by rw[Nat.pow_succ];grind]at this
 refine ⟨λ j hj r hr x hx => ?_,λ j hj r hr x hx => ?_,λ j hj => ?_,λ j hj e he => ?_⟩
 ·exact (XX ha qk hn j (by omega) r hr x hx).bt (nz _ _ (gf j (by omega)).2) (gb j (by omega) _ (gf j (by omega)).1) (Nat.le_trans (Du j (by omega)) (Nat.pow_le_pow_right (by omega) (by omega)))
 ·exact (hP j (by omega) r hr x hx).bt (nz _ _ (gf j (by omega)).2) (gb (j+1) (by omega) _ (gf j (by omega)).1) (Dw j (by omega) n (by omega))
 ·have h2:=((hP j (by omega)).tr n).mul (mA (j+1) (by omega))
  have e3:D^(j+1)*GY j*(j+1)=D^(j+1)*GY (j+1):=by rw[GY];grind
  rw[e3]at h2;refine B4.bt h2 (nz _ _ (gf (j+1) (by omega)).2) (gb (j+1) (by omega) _ (gf (j+1) (by omega)).1) ?_;rw[Nat.mul_one,<-Nat.mul_assoc];exact Dw j (by omega) (n*n) (Nat.le_trans (Nat.mul_le_mul hn hn) (by decide))
 ·refine ((hP j (by omega)).tr e).bt (nz _ _ (gf j (by omega)).2) (gb (j+1) (by omega) _ (gf j (by omega)).1) ?_
  rw[<-Nat.mul_assoc];exact Dw j (by omega) (e*n) (Nat.le_trans (Nat.mul_le_mul (Nat.le_trans he hn) hn) (by decide))
end
end Go.c8
