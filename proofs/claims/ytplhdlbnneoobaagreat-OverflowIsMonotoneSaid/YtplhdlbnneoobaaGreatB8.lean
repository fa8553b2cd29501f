/-
  Natural numbers (layer 1): sums, differences, products.
-/
import Derived.Test.YtplhdlbnneoobaaGreatB7
import Derived.Test.YtplhdlbnneoobaaGreatB4
set_option linter.unusedSimpArgs false
set_option linter.unusedVariables false
set_option linter.unnecessarySimpa false
namespace Go.b7
open F
attribute [local irreducible] AA AF AM AC BT AQ A5 AZ BG A9 BS CN BH AU BI BR AB A1 AJ pw B1 BQ B9 CM CH BF BV BB B5
variable {L:Lib}
set_option maxHeartbeats 1000000
theorem ZJ {y:List Nat} {i:Nat} (h:y.length<=i):val (y.take (i+1))=val (y.take i):=by
 rw[C7 h,C7 (by omega)]
theorem Uk (N:c6 L) (a b:List Nat) (q1 q2:Bool) (hA:A2 a) (hB:A2 b) (la:a.length<=1099511627775) (lb:b.length<=1099511627775):Ev L 68 [.sl q1 (a.map AL),.sl q2 (b.map AL)] (.sl false ((dg (val a+val b)).map AL)):=by
 have l1:=ES hA;have l2:=ES hB;have d1:=DT (val a);have d2:=DT (val b);have v1:=BP (val a);have v2:=BP (val b);refine Ev.x N.LR rfl rfl ?_;(repeat' ((first|(apply AG<;>intro hc<;>try (exfalso;omega))|(apply AR;omega)|apply AY|apply AE|refine J9 (KO N a _ hA (by omega)) ?_|refine J9 (KO N b _ hB (by omega)) ?_)<;>conv=>whnf))
 ·generalize dg (val a)=y at *
  generalize dg (val b)=x at *;rw[<-v1,<-v2,Nat.add_comm (val y)];have hlen:y.length<=x.length:=by omega
  have Iz:x.length<=1099511627775:=by omega
  clear v1 v2 hA hB la lb;refine DP (enc:=AL) 0 (x.length+1) rfl (by omega) (by omega) ?_;(conv=>whnf)
  (repeat' (apply AY<;>conv=>whnf))
  refine GR (λ i _ _=>x.length-i) (λ(i:Nat) (o:List Nat) (c:Nat)=>i<=x.length/\o.length=x.length+1/\A2 o/\c<=1/\val (o.take i)+4294967296^i*c=val (x.take i)+val (y.take i)) (λ i o c=>[(8,.int .u64 (c:Int)),(29,.int .i64 i)]) (λ i o c=>[(26,26,.rw 1 (o.map AL))]) [] [] 0 (List.replicate (x.length+1) 0) 0 (by (conv=>whnf);exact ⟨rfl,rfl,rfl⟩) ⟨by omega,by simp,JD _,by omega,by simp [val]⟩ ?_;intro i o c ⟨p1,p2,p3,p4,p5⟩ ih;by_cases hi:i<x.length
  ·(repeat' ((first|(apply AG<;>intro hc<;>try (exfalso;omega))|(apply A3;omega)|(apply GA;omega)|(apply B7;omega)|apply FW|apply AY|(refine WZ (by assumption) ?_ (λ e he hb => ?_);omega)|apply AE)<;>conv=>whnf))
   ·rename_i d hd _
    refine E7 (by omega) ?_;(conv=>whnf)
    (repeat' ((first|(apply AR;omega)|apply FD)<;>conv=>whnf))
    refine BL [] (by (conv=>whnf);exact ⟨rfl,rfl,rfl⟩) (ih (i+1) _ _ (by omega) ⟨by omega,by simpa using p2,p3.set _ (by omega),by omega,?_⟩);have h1:=DX hd;have h2:=DX he;have h3:=PK (val (o.take i)) (4294967296^i) (d+c+e);have h4:=F8 (v:=(d+c+e)%4294967296) (show i<o.length by omega);rw[h4,h1,h2,Nat.pow_succ];generalize 4294967296^i=p at *;rw[h3,Nat.mul_add,Nat.mul_add];omega
   ·refine E7 (by omega) ?_
    (conv=>whnf)
    (repeat' ((first|(apply AR;omega)|apply FD)<;>conv=>whnf))
    refine BL [] (by (conv=>whnf);exact ⟨rfl,rfl,rfl⟩) (ih (i+1) _ _ (by omega) ⟨by omega,by simpa using p2,p3.set _ (by omega),by omega,?_⟩);have h1:=DX he;have h2:=ZJ (y:=y) (i:=i) (by omega);have h3:=PK (val (o.take i)) (4294967296^i) (e+c);have h4:=F8 (v:=(e+c)%4294967296) (show i<o.length by omega);rw[h4,h1,h2,Nat.pow_succ];generalize 4294967296^i=p at *;rw[h3,Nat.mul_add];omega
  ·obtain rfl:i=x.length:=by omega
   clear ih;(repeat' ((first|(apply AG<;>intro hc<;>try (exfalso;omega))|(apply A3;omega)|(apply D8;omega)|apply AY|apply AE)<;>conv=>whnf))
   refine E7 (by omega) ?_;(conv=>whnf)
   skip
   have hV:val (o.set x.length c)=val x+val y:=by
    have h4:=F8 (v:=c) (show x.length<o.length by omega);rw[List.take_of_length_le (by simp;omega)]at h4;rw[h4,p5,C7 (Nat.le_refl _),C7 hlen]
   have hD:A2 (o.set x.length c):=p3.set _ (by omega);have hL:(o.set x.length c).length=x.length+1:=by simpa using p2
   clear p3 p4 p5 p2;generalize o.set x.length c=O at *;rw[<-hL];refine GS 1000 N.FR rfl rfl ?_;(repeat' (apply AE<;>conv=>whnf))
   refine CK (λ n=>n) (λ(n:Nat)=>n<=(O).length /\ ∀ i,n<=i->i<(O).length->(O)[i]? = some 0) (λ n=>[(3,.int .i64 n)]) (λ_=>[]) [] [] (O).length (by first|exact (by (conv=>whnf);exact ⟨rfl,rfl,rfl⟩)|(simp only[List.length_set,List.length_replicate];exact (by (conv=>whnf);exact ⟨rfl,rfl,rfl⟩))) ⟨Nat.le_refl _,λ i h1 h2=>by omega⟩ ?_;intro n ⟨p1,p2⟩ ih;rcases n with _|n
   ·(repeat' ((first|(apply AG<;>intro hc<;>try (exfalso;omega))|apply AE)<;>conv=>whnf))
    refine G5 0 (by omega) (by omega) ?_;(conv=>whnf)
    refine ⟨rfl,_,rfl,?_⟩;(conv=>whnf)
    have hm:=p1;have ag:=GI (l:=O) (by assumption) p1 p2 (Or.inl rfl);clear ih p1 p2;(refine H1 (enc:=AL) (λ_=>rfl) (by omega) ?_;(conv=>whnf);exact AW (by rw[<-hV,<-ag];rfl) (by simp only[A4,true_and];exact C0 _))
   ·have e1:((n+1:Nat):Int)-1=n:=by omega
    (repeat' ((first|(apply AG<;>intro hc<;>try (exfalso;omega))|(apply A3;omega)|(apply BM;omega)|(refine Q9 (by assumption) ?_ (λ v hv hb => ?_);omega)|apply AE)<;>conv=>whnf))
    ·rw[e1]
     exact BO [] (ih n (by omega) ⟨by omega,λ i h1 h2=>by
      by_cases h:i=n
      ·subst h
       rw[e1,Int.toNat_natCast]at hv;rw[hv];congr 1;omega
      ·exact p2 i (by omega) h2⟩)
    ·refine G5 (n+1) (by omega) (by omega) ?_
     (conv=>whnf)
     refine ⟨rfl,_,rfl,?_⟩;(conv=>whnf)
     rw[e1,Int.toNat_natCast]at hv;have hm:=p1;have ag:=GI (l:=O) (by assumption) p1 p2 (Or.inr ⟨_,hv,by omega⟩);clear ih p1 p2 hv;(refine H1 (enc:=AL) (λ_=>rfl) (by omega) ?_;(conv=>whnf);exact AW (by rw[<-hV,<-ag];rfl) (by simp only[A4,true_and];exact C0 _))
 ·generalize dg (val a)=x at *
  generalize dg (val b)=y at *;rw[<-v1,<-v2];have hlen:y.length<=x.length:=by omega
  have Iz:x.length<=1099511627775:=by omega
  clear v1 v2 hA hB la lb;refine DP (enc:=AL) 0 (x.length+1) rfl (by omega) (by omega) ?_;(conv=>whnf)
  (repeat' (apply AY<;>conv=>whnf))
  refine GR (λ i _ _=>x.length-i) (λ(i:Nat) (o:List Nat) (c:Nat)=>i<=x.length/\o.length=x.length+1/\A2 o/\c<=1/\val (o.take i)+4294967296^i*c=val (x.take i)+val (y.take i)) (λ i o c=>[(8,.int .u64 (c:Int)),(29,.int .i64 i)]) (λ i o c=>[(26,26,.rw 1 (o.map AL))]) [] [] 0 (List.replicate (x.length+1) 0) 0 (by (conv=>whnf);exact ⟨rfl,rfl,rfl⟩) ⟨by omega,by simp,JD _,by omega,by simp [val]⟩ ?_;intro i o c ⟨p1,p2,p3,p4,p5⟩ ih;by_cases hi:i<x.length
  ·(repeat' ((first|(apply AG<;>intro hc<;>try (exfalso;omega))|(apply A3;omega)|(apply GA;omega)|(apply B7;omega)|apply FW|apply AY|(refine WZ (by assumption) ?_ (λ e he hb => ?_);omega)|apply AE)<;>conv=>whnf))
   ·rename_i d hd _
    refine E7 (by omega) ?_;(conv=>whnf)
    (repeat' ((first|(apply AR;omega)|apply FD)<;>conv=>whnf))
    refine BL [] (by (conv=>whnf);exact ⟨rfl,rfl,rfl⟩) (ih (i+1) _ _ (by omega) ⟨by omega,by simpa using p2,p3.set _ (by omega),by omega,?_⟩);have h1:=DX hd;have h2:=DX he;have h3:=PK (val (o.take i)) (4294967296^i) (d+c+e);have h4:=F8 (v:=(d+c+e)%4294967296) (show i<o.length by omega);rw[h4,h1,h2,Nat.pow_succ];generalize 4294967296^i=p at *;rw[h3,Nat.mul_add,Nat.mul_add];omega
   ·refine E7 (by omega) ?_
    (conv=>whnf)
    (repeat' ((first|(apply AR;omega)|apply FD)<;>conv=>whnf))
    refine BL [] (by (conv=>whnf);exact ⟨rfl,rfl,rfl⟩) (ih (i+1) _ _ (by omega) ⟨by omega,by simpa using p2,p3.set _ (by omega),by omega,?_⟩);have h1:=DX he;have h2:=ZJ (y:=y) (i:=i) (by omega);have h3:=PK (val (o.take i)) (4294967296^i) (e+c);have h4:=F8 (v:=(e+c)%4294967296) (show i<o.length by omega);rw[h4,h1,h2,Nat.pow_succ];generalize 4294967296^i=p at *;rw[h3,Nat.mul_add];omega
  ·obtain rfl:i=x.length:=by omega
   clear ih;(repeat' ((first|(apply AG<;>intro hc<;>try (exfalso;omega))|(apply A3;omega)|(apply D8;omega)|apply AY|apply AE)<;>conv=>whnf))
   refine E7 (by omega) ?_;(conv=>whnf)
   skip
   have hV:val (o.set x.length c)=val x+val y:=by
    have h4:=F8 (v:=c) (show x.length<o.length by omega);rw[List.take_of_length_le (by simp;omega)]at h4;rw[h4,p5,C7 (Nat.le_refl _),C7 hlen]
   have hD:A2 (o.set x.length c):=p3.set _ (by omega);have hL:(o.set x.length c).length=x.length+1:=by simpa using p2
   clear p3 p4 p5 p2;generalize o.set x.length c=O at *;rw[<-hL];refine GS 1000 N.FR rfl rfl ?_;(repeat' (apply AE<;>conv=>whnf))
   refine CK (λ n=>n) (λ(n:Nat)=>n<=(O).length /\ ∀ i,n<=i->i<(O).length->(O)[i]? = some 0) (λ n=>[(3,.int .i64 n)]) (λ_=>[]) [] [] (O).length (by first|exact (by (conv=>whnf);exact ⟨rfl,rfl,rfl⟩)|(simp only[List.length_set,List.length_replicate];exact (by (conv=>whnf);exact ⟨rfl,rfl,rfl⟩))) ⟨Nat.le_refl _,λ i h1 h2=>by omega⟩ ?_;intro n ⟨p1,p2⟩ ih;rcases n with _|n
   ·(repeat' ((first|(apply AG<;>intro hc<;>try (exfalso;omega))|apply AE)<;>conv=>whnf))
    refine G5 0 (by omega) (by omega) ?_;(conv=>whnf)
    refine ⟨rfl,_,rfl,?_⟩;(conv=>whnf)
    have hm:=p1;have ag:=GI (l:=O) (by assumption) p1 p2 (Or.inl rfl);clear ih p1 p2;(refine H1 (enc:=AL) (λ_=>rfl) (by omega) ?_;(conv=>whnf);exact AW (by rw[<-hV,<-ag];rfl) (by simp only[A4,true_and];exact C0 _))
   ·have e1:((n+1:Nat):Int)-1=n:=by omega
    (repeat' ((first|(apply AG<;>intro hc<;>try (exfalso;omega))|(apply A3;omega)|(apply BM;omega)|(refine Q9 (by assumption) ?_ (λ v hv hb => ?_);omega)|apply AE)<;>conv=>whnf))
    ·rw[e1]
     exact BO [] (ih n (by omega) ⟨by omega,λ i h1 h2=>by
      by_cases h:i=n
      ·subst h
       rw[e1,Int.toNat_natCast]at hv;rw[hv];congr 1;omega
      ·exact p2 i (by omega) h2⟩)
    ·refine G5 (n+1) (by omega) (by omega) ?_
     (conv=>whnf)
     refine ⟨rfl,_,rfl,?_⟩;(conv=>whnf)
     rw[e1,Int.toNat_natCast]at hv;have hm:=p1;have ag:=GI (l:=O) (by assumption) p1 p2 (Or.inr ⟨_,hv,by omega⟩);clear ih p1 p2 hv;(refine H1 (enc:=AL) (λ_=>rfl) (by omega) ?_;(conv=>whnf);exact AW (by rw[<-hV,<-ag];rfl) (by simp only[A4,true_and];exact C0 _))
theorem Ph {a b:Int} (h:C5 a b<=0):a<=b:=by
 unfold C5 at h;split at h
 ·omega
 ·split at h<;>omega
theorem Pj {a b:Int} (h:0<C5 a b):b<a:=by
 unfold C5 at h;split at h
 ·omega
 ·split at h<;>omega
theorem nB (N:c6 L) (a b:List Nat) (q1 q2:Bool) (hA:A2 a) (hB:A2 b) (la:a.length<=1099511627776) (lb:b.length<=1099511627776):Ev L 69 [.sl q1 (a.map AL),.sl q2 (b.map AL)] (.sl false ((dg (val a-val b)).map AL)):=by
 have l1:=ES hA;have l2:=ES hB;have d1:=DT (val a);have d2:=DT (val b);have v1:=BP (val a);have v2:=BP (val b);refine Ev.x N.LV rfl rfl ?_;(repeat' ((first|(apply AG<;>intro hc<;>try (exfalso;omega))|apply AY|apply AE|refine AD (PS N a b _ _ hA hB la lb) ?_|refine J9 (KO N a _ hA la) ?_|refine J9 (KO N b _ hB lb) ?_)<;>conv=>whnf))
 ·have:=Ph hc
  refine AW ?_ (by simp only[A4,true_and];exact C0 _);rw[show val a-val b=0 by omega,EY];rfl
 ·have k6:=Pj hc
  have pz:(dg (val b)).length<=(dg (val a)).length:=by
   rcases Nat.lt_or_ge (dg (val a)).length (dg (val b)).length with h|h
   ·have:=UD h;omega
   ·exact h
  have qa:val b<val a:=by omega
  clear k6 hc;generalize dg (val a)=x at *;generalize dg (val b)=y at *;rw[<-v1,<-v2]at qa ⊢;clear v1 v2 hA hB lb;refine DP (enc:=AL) 0 x.length rfl rfl (by omega) ?_;(conv=>whnf)
  (repeat' (apply AY<;>conv=>whnf))
  refine GR (λ i _ _=>x.length-i) (λ(i:Nat) (o:List Nat) (c:Nat)=>i<=x.length/\o.length=x.length/\A2 o/\c<=1/\val (o.take i)+val (y.take i)=val (x.take i)+4294967296^i*c) (λ i o c=>[(8,.int .u64 (c:Int)),(25,.int .i64 i)]) (λ i o c=>[(22,22,.rw 1 (o.map AL))]) [] [] 0 (List.replicate x.length 0) 0 (by (conv=>whnf);exact ⟨rfl,rfl,rfl⟩) ⟨by omega,by simp,JD _,by omega,by simp [val]⟩ ?_;intro i o c ⟨p1,p2,p3,p4,p5⟩ ih;by_cases hi:i<x.length
  ·(repeat' ((first|(apply AG<;>intro hc<;>try (exfalso;omega))|(apply A3;omega)|(apply WY;omega)|(apply B7;omega)|apply FW|apply AY|(refine WZ (by assumption) ?_ (λ e he hb => ?_);omega)|apply AE)<;>conv=>whnf))
   ·rename_i d hd x6
    obtain ⟨s1,s2⟩:=Agc x6 hb p4;refine E7 (by omega) ?_;(conv=>whnf)
    (repeat' ((first|(apply AR;omega)|apply WX)<;>conv=>whnf))
    generalize EE (EE d c) e=t at *;refine BL [] (by (conv=>whnf);exact ⟨rfl,rfl,rfl⟩) (ih (i+1) _ _ (by omega) ⟨by omega,by simpa using p2,p3.set _ (by omega),s2,?_⟩);rw[F8 (by omega),DX hd,DX he,Nat.pow_succ];exact uE p5 s1
   ·obtain ⟨s1,s2⟩:=Agb hb p4
    refine E7 (by omega) ?_;(conv=>whnf)
    (repeat' ((first|(apply AR;omega)|apply WX)<;>conv=>whnf))
    generalize EE e c=t at *;refine BL [] (by (conv=>whnf);exact ⟨rfl,rfl,rfl⟩) (ih (i+1) _ _ (by omega) ⟨by omega,by simpa using p2,p3.set _ (by omega),s2,?_⟩);rw[F8 (by omega),DX he,ZJ (by omega),Nat.pow_succ];rw[<-Nat.add_zero (t%4294967296)]at s1;have:=uE (e:=0) p5 s1
    rw[Nat.mul_zero,Nat.add_zero]at this;exact this
  ·obtain rfl:i=x.length:=by omega
   clear ih;have ep:c=0:=by
    rw[C7 (by omega),C7 pz,C7 (Nat.le_refl _)]at p5;have:=E0 p3
    rw[p2]at this;rcases Nat.eq_zero_or_pos c with h|h
    ·exact h
    ·have:c=1:=by omega
     subst this;omega
   subst ep;have hV:val o=val x-val y:=by
    rw[C7 (by omega),C7 pz,C7 (Nat.le_refl _)]at p5;omega
   clear p5 p4;rw[<-p2];(repeat' ((first|(apply AG<;>intro hc<;>try (exfalso;omega))|apply AE)<;>conv=>whnf))
   refine GS 1000 N.FR rfl rfl ?_;(repeat' (apply AE<;>conv=>whnf))
   refine CK (λ n=>n) (λ(n:Nat)=>n<=(o).length /\ ∀ i,n<=i->i<(o).length->(o)[i]? = some 0) (λ n=>[(3,.int .i64 n)]) (λ_=>[]) [] [] (o).length (by first|exact (by (conv=>whnf);exact ⟨rfl,rfl,rfl⟩)|(simp only[List.length_set,List.length_replicate];exact (by (conv=>whnf);exact ⟨rfl,rfl,rfl⟩))) ⟨Nat.le_refl _,λ i h1 h2=>by omega⟩ ?_;intro n ⟨p1,p2⟩ ih;rcases n with _|n
   ·(repeat' ((first|(apply AG<;>intro hc<;>try (exfalso;omega))|apply AE)<;>conv=>whnf))
    refine G5 0 (by omega) (by omega) ?_;(conv=>whnf)
    refine ⟨rfl,_,rfl,?_⟩;(conv=>whnf)
    have hm:=p1;have ag:=GI (l:=o) (by assumption) p1 p2 (Or.inl rfl);clear ih p1 p2;(refine H1 (enc:=AL) (λ_=>rfl) (by omega) ?_;(conv=>whnf);exact AW (by rw[<-hV,<-ag];rfl) (by simp only[A4,true_and];exact C0 _))
   ·have e1:((n+1:Nat):Int)-1=n:=by omega
    (repeat' ((first|(apply AG<;>intro hc<;>try (exfalso;omega))|(apply A3;omega)|(apply BM;omega)|(refine Q9 (by assumption) ?_ (λ v hv hb => ?_);omega)|apply AE)<;>conv=>whnf))
    ·rw[e1]
     exact BO [] (ih n (by omega) ⟨by omega,λ i h1 h2=>by
      by_cases h:i=n
      ·subst h
       rw[e1,Int.toNat_natCast]at hv;rw[hv];congr 1;omega
      ·exact p2 i (by omega) h2⟩)
    ·refine G5 (n+1) (by omega) (by omega) ?_
     (conv=>whnf)
     refine ⟨rfl,_,rfl,?_⟩;(conv=>whnf)
     rw[e1,Int.toNat_natCast]at hv;have hm:=p1;have ag:=GI (l:=o) (by assumption) p1 p2 (Or.inr ⟨_,hv,by omega⟩);clear ih p1 p2 hv;(refine H1 (enc:=AL) (λ_=>rfl) (by omega) ?_;(conv=>whnf);exact AW (by rw[<-hV,<-ag];rfl) (by simp only[A4,true_and];exact C0 _))
theorem cD (N:c6 L) (a b:List Nat) (q1 q2:Bool) (hA:A2 a) (hB:A2 b) (Md:a.length+b.length<=1099511627776):Ev L 70 [.sl q1 (a.map AL),.sl q2 (b.map AL)] (.sl false ((dg (val a*val b)).map AL)):=by
 have l1:=ES hA;have l2:=ES hB;have d1:=DT (val a);have d2:=DT (val b);have v1:=BP (val a);have v2:=BP (val b);refine Ev.x N.LU rfl rfl ?_;have hz : ∀ p:Prop,((dg (val a)).length:Int)=0\/((dg (val b)).length:Int)=0->AJ (.sl false []) (.sl false ((dg (val a*val b)).map AL)):=λ_ h=>by
  have:val a*val b=0:=by
   rcases h with h|h
   ·have:dg (val a)=[]:=List.eq_nil_of_length_eq_zero (by omega)
    rw[bG.1 this,Nat.zero_mul]
   ·have:dg (val b)=[]:=List.eq_nil_of_length_eq_zero (by omega)
    rw[bG.1 this,Nat.mul_zero]
  exact AW (by rw[this,EY];rfl) (by simp only[A4,true_and];exact C0 _)
 (repeat' ((first|(apply AG<;>intro hc<;>try (exfalso;omega))|(apply AR;omega)|apply AY|apply AE|refine J9 (KO N a _ hA (by omega)) ?_|refine J9 (KO N b _ hB (by omega)) ?_)<;>conv=>whnf))
 ·exact hz True (Or.inl hc)
 ·exact hz True (Or.inr hc)
 ·clear hz
  generalize dg (val a)=x at *;generalize dg (val b)=y at *;rw[<-v1,<-v2];have og:x.length+y.length<=1099511627776:=by omega
  clear v1 v2 hA hB Md l1 l2;refine DP (enc:=AL) 0 (x.length+y.length) rfl (by omega) (by omega) ?_;(conv=>whnf)
  (repeat' (apply AY<;>conv=>whnf))
  refine EX (λ i _=>x.length-i) (λ(i:Nat) (o:List Nat)=>i<=x.length/\o.length=x.length+y.length/\A2 o/\val o=val (x.take i)*val y /\ ∀ k,i+y.length<=k->k<o.length->o[k]? = some 0) (λ i o=>[(34,.int .i64 i)]) (λ i o=>[(31,31,.rw 1 (o.map AL))]) [] [] 0 (List.replicate (x.length+y.length) 0) (by (conv=>whnf);exact ⟨rfl,rfl,rfl⟩) ⟨by omega,by simp,JD _,by simp [val,ZL],λ k h1 h2=>by simp at h2;simp [h2]⟩ ?_;intro i O ⟨p1,p2,p3,p4,p5⟩ ih;by_cases hi:i<x.length
  ·obtain ⟨d,hd⟩ : ∃ d,x[i]? = some d:=⟨_,zE hi⟩
   have x6:=d1.at hd;(repeat' ((first|(apply AG<;>intro hc<;>try (exfalso;omega))|(apply AR;omega)|apply AY|(refine BC (by assumption) ?_ rfl ?_;omega)|apply AE)<;>conv=>whnf))
   ·refine BL [] (by (conv=>whnf);exact ⟨rfl,rfl,rfl⟩) (ih (i+1) O (by omega) ⟨by omega,p2,p3,?_,λ k h1 h2=>p5 k (by omega) h2⟩)
    rw[DX hd,p4,show d=0 by omega,Nat.mul_zero,Nat.add_zero]
   ·refine GR (λ j _ _=>y.length-j) (λ(j:Nat) (o:List Nat) (c:Nat)=>j<=y.length/\o.length=x.length+y.length/\A2 o/\c<4294967296/\val o+4294967296^(i+j)*c=val O+4294967296^i*(d*val (y.take j)) /\ ∀ k,i+j<=k->o[k]? = O[k]?) (λ j o c=>[(10,.int .u64 (c:Int)),(43,.int .i64 j)]) (λ j o c=>[(31,31,.rw 1 (o.map AL))]) [] [] 0 O 0 (by (conv=>whnf);exact ⟨rfl,rfl,rfl⟩) ⟨by omega,p2,p3,by omega,by simp [val],λ_ _=>rfl⟩ ?_
    intro j o c ⟨r1,r2,r3,r4,r5,r6⟩ jh;have e1:((i:Int)+j).toNat=i+j:=by omega
    by_cases hj:j<y.length
    ·obtain ⟨w,hw⟩ : ∃ w,y[j]? = some w:=⟨_,zE hj⟩
     have Ix:=d2.at hw;have hm:=TR x6 Ix;(repeat' ((first|(apply AG<;>intro hc<;>try (exfalso;omega))|(apply A3;omega)|(apply AR;omega)|(apply GA;omega)|(apply PD;omega)|(apply B7;omega)|apply FW|(refine BC (by assumption) ?_ rfl ?_;omega)|(refine iM (by assumption) ?_ (λ v hv hb => ?_);omega)|apply AE)<;>conv=>whnf))
     refine W2 (i+j) (by omega) (by omega) ?_;(conv=>whnf)
     (repeat' ((first|(apply AR;omega)|apply FD)<;>conv=>whnf))
     refine BL [] (by (conv=>whnf);exact ⟨rfl,rfl,rfl⟩) (jh (j+1) _ _ (by omega) ⟨by omega,by simpa using r2,r3.set _ (by omega),by omega,?_,?_⟩)
     ·have h1:=ZI (v:=(d*w+v+c)%4294967296) hv
      have h2:=PK 0 (4294967296^(i+j)) (d*w+v+c);rw[DX hw,show i+(j+1)=i+j+1 by omega,Nat.pow_succ (4294967296) (i+j)];have h3:4294967296^i*(d*(val (y.take j)+4294967296^j*w))=4294967296^i*(d*val (y.take j))+4294967296^(i+j)*(d*w):=by rw[Nat.pow_add];grind
      rw[h3];generalize 4294967296^(i+j)=P at *;rw[Nat.mul_add P,Nat.mul_add P]at h2;omega
     ·intro k hk
      rw[List.getElem?_set_ne (by omega)];exact r6 k (by omega)
    ·obtain rfl:j=y.length:=by omega
     clear jh;(repeat' ((first|(apply AG<;>intro hc<;>try (exfalso;omega))|(apply A3;omega)|(apply AR;omega)|(apply D8;omega)|apply AY|apply AE)<;>conv=>whnf))
     have hz:=r6 (i+y.length) (by omega);rw[p5 (i+y.length) (by omega) (by omega)]at hz;refine W2 (i+y.length) (by omega) (by omega) ?_;(conv=>whnf)
     (repeat' ((first|(apply AR;omega)|fail)<;>conv=>whnf))
     refine BL [] (by (conv=>whnf);exact ⟨rfl,rfl,rfl⟩) (ih (i+1) _ (by omega) ⟨by omega,by simpa using r2,r3.set _ (by omega),?_,?_⟩)
     ·have h1:=ZI (v:=c) hz
      rw[Nat.mul_zero,Nat.add_zero]at h1;rw[h1,r5,p4,C7 (Nat.le_refl _),DX hd,Nat.add_mul,Nat.mul_assoc]
     ·intro k h1 h2
      rw[List.length_set]at h2;rw[List.getElem?_set_ne (by omega),r6 k (by omega)];exact p5 k (by omega) (by omega)
  ·obtain rfl:i=x.length:=by omega
   clear ih;rw[C7 (Nat.le_refl _)]at p4;rw[<-p4,<-p2];(repeat' ((first|(apply AG<;>intro hc<;>try (exfalso;omega))|apply AE)<;>conv=>whnf))
   clear p5;refine GS 1000 N.FR rfl rfl ?_;(repeat' (apply AE<;>conv=>whnf))
   refine CK (λ n=>n) (λ(n:Nat)=>n<=(O).length /\ ∀ i,n<=i->i<(O).length->(O)[i]? = some 0) (λ n=>[(3,.int .i64 n)]) (λ_=>[]) [] [] (O).length (by first|exact (by (conv=>whnf);exact ⟨rfl,rfl,rfl⟩)|(simp only[List.length_set,List.length_replicate];exact (by (conv=>whnf);exact ⟨rfl,rfl,rfl⟩))) ⟨Nat.le_refl _,λ i h1 h2=>by omega⟩ ?_;intro n ⟨p1,p2⟩ ih;rcases n with _|n
   ·(repeat' ((first|(apply AG<;>intro hc<;>try (exfalso;omega))|apply AE)<;>conv=>whnf))
    refine G5 0 (by omega) (by omega) ?_;(conv=>whnf)
    refine ⟨rfl,_,rfl,?_⟩;(conv=>whnf)
    have hm:=p1;have ag:=GI (l:=O) (by assumption) p1 p2 (Or.inl rfl);clear ih p1 p2;(refine H1 (enc:=AL) (λ_=>rfl) (by omega) ?_;(conv=>whnf);exact AW (by rw[<-ag];rfl) (by simp only[A4,true_and];exact C0 _))
   ·have e1:((n+1:Nat):Int)-1=n:=by omega
    (repeat' ((first|(apply AG<;>intro hc<;>try (exfalso;omega))|(apply A3;omega)|(apply BM;omega)|(refine Q9 (by assumption) ?_ (λ v hv hb => ?_);omega)|apply AE)<;>conv=>whnf))
    ·rw[e1]
     exact BO [] (ih n (by omega) ⟨by omega,λ i h1 h2=>by
      by_cases h:i=n
      ·subst h
       rw[e1,Int.toNat_natCast]at hv;rw[hv];congr 1;omega
      ·exact p2 i (by omega) h2⟩)
    ·refine G5 (n+1) (by omega) (by omega) ?_
     (conv=>whnf)
     refine ⟨rfl,_,rfl,?_⟩;(conv=>whnf)
     rw[e1,Int.toNat_natCast]at hv;have hm:=p1;have ag:=GI (l:=O) (by assumption) p1 p2 (Or.inr ⟨_,hv,by omega⟩);clear ih p1 p2 hv;(refine H1 (enc:=AL) (λ_=>rfl) (by omega) ?_;(conv=>whnf);exact AW (by rw[<-ag];rfl) (by simp only[A4,true_and];exact C0 _))
end Go.b7
namespace Go.b7
@[irreducible] def P2 (d s : Nat) : Nat := d * 2 ^ s % 4294967296
@[irreducible] def SD (d s : Nat) : Nat := d * 2 ^ s / 4294967296
theorem gB (d s:Nat):P2 d s=d*2^s%4294967296:=by unfold P2;rfl
theorem SE (d s:Nat):SD d s=d*2^s/4294967296:=by unfold SD;rfl
theorem Q0 {s:Nat} (hs:s<=32):4294967296=2^s*2^(32-s):=by
 rw[<-Nat.pow_add,show s+(32-s)=32 by omega]
theorem AfM (d s:Nat):P2 d s+4294967296*SD d s=d*2^s:=by
 rw[gB,SE];exact Nat.mod_add_div _ _
theorem sV {d s:Nat} (hs:s<=32):P2 d s=2^s*(d%2^(32-s)):=by
 rw[gB,Q0 hs,Nat.mul_comm d,Nat.mul_mod_mul_left]
theorem sU {d s:Nat} (hs:s<=32):SD d s=d/2^(32-s):=by
 rw[SE,Q0 hs,Nat.mul_comm d,Nat.mul_div_mul_left _ _ (Nat.two_pow_pos s)]
theorem SF {d s:Nat} (hd:d<4294967296) (hs:s<=32):P2 d s%2^s=0/\SD d s<2^s/\P2 d s+2^s<=4294967296/\d*2^s<=18446744073709551615:=by
 refine ⟨by rw[sV hs,Nat.mul_mod_right],?_,?_,?_⟩
 ·rw[sU hs,Nat.div_lt_iff_lt_mul (Nat.two_pow_pos _),<-Nat.pow_add,show s+(32-s)=32 by omega];exact hd
 ·rw[sV hs]
  have h1:d%2^(32-s)+1<=2^(32-s):=Nat.mod_lt _ (Nat.two_pow_pos _);have h2:=Nat.mul_le_mul_left (2^s) h1;rw[Nat.mul_add,Nat.mul_one,<-Q0 hs]at h2;exact h2
 ·have h1:2^s<=2^32:=Nat.pow_le_pow_right (by omega) hs
  have h2:d*2^s<=4294967295*4294967296:=Nat.mul_le_mul (by omega) h1;omega
theorem V0 {s:Nat} (hs:s<=32):2^s<=4294967296:=(Nat.pow_le_pow_right (by omega) hs:2^s<=2^32)
theorem qB {V X p lo s d:Nat} (h:V+p*lo=X*2^s):V+p*(P2 d s+lo)+p*4294967296*SD d s=(X+p*d)*2^s:=by
 have h1:=AfM d s;have h2:p*(P2 d s+lo)+p*4294967296*SD d s=p*lo+p*(d*2^s):=by
  rw[<-h1];grind
 rw[Nat.add_mul,<-h,Nat.mul_assoc p d];omega
theorem dS {d V s:Nat} (hs:s<=32):(d+4294967296*V)/2^s=d/2^s+V%2^s*2^(32-s)+4294967296*(V/2^s):=by
 have e:4294967296*V=2^s*(2^(32-s)*V):=by rw[<-Nat.mul_assoc,<-Q0 hs]
 rw[e,Nat.add_mul_div_left _ _ (Nat.two_pow_pos s)];have h:=Nat.mod_add_div V (2^s);have h2:2^(32-s)*V=V%2^s*2^(32-s)+4294967296*(V/2^s):=by
  have h3:2^(32-s)*V=2^(32-s)*(V%2^s+2^s*(V/2^s)):=by rw[h]
  rw[h3,Q0 hs];grind
 omega
theorem qG {d V s:Nat} (hs:s<=32):(d+4294967296*V)%2^s=d%2^s:=by
 have e:4294967296*V=2^s*(2^(32-s)*V):=by rw[<-Nat.mul_assoc,<-Q0 hs]
 rw[e,Nat.add_mul_mod_self_left]
theorem Zf {d s:Nat} (hs:s<=32):d*2^(32-s)%4294967296=d%2^s*2^(32-s):=by
 have e:4294967296=2^s*2^(32-s):=Q0 hs;rw[e,Nat.mul_mod_mul_right]
theorem qF {d V s:Nat} (hd:d<4294967296) (hs:s<=32):d/2^s<2^(32-s)/\V%2^s*2^(32-s)%2^(32-s)=0/\V%2^s*2^(32-s)+2^(32-s)<=4294967296:=by
 refine ⟨?_,Nat.mul_mod_left _ _,?_⟩
 ·rw[Nat.div_lt_iff_lt_mul (Nat.two_pow_pos _),<-Nat.pow_add,show 32-s+s=32 by omega];exact hd
 ·have h1:V%2^s+1<=2^s:=Nat.mod_lt _ (Nat.two_pow_pos _)
  have h2:=Nat.mul_le_mul_right (2^(32-s)) h1;rw[Nat.add_mul,Nat.one_mul,<-Q0 hs]at h2;exact h2
def n0 (x:Nat):Nat:=if x=0 then 0 else x.log2+1
theorem jR {x:Nat} (h:x≠0):2^(n0 x-1)<=x/\x<2^n0 x/\1<=n0 x:=by
 unfold n0;rw[if_neg h];exact ⟨Nat.log2_self_le h,Nat.lt_log2_self,by omega⟩
theorem W4 {x k:Nat} (h:x<2^k):n0 x<=k:=by
 by_cases h0:x=0
 ·subst h0;unfold n0;simp
 ·obtain ⟨h1,_,h3⟩:=jR h0
  have h2:2^(n0 x-1)<2^k:=by omega
  have:=(Nat.pow_lt_pow_iff_right (by omega)).1 h2
  omega
theorem UR {x:Nat} (n:Nat) (h:2^n<=x):n0 (x/2^n)+n=n0 x:=by
 have hp:=Nat.two_pow_pos n;have hx:x≠0:=by omega
 have hq:x/2^n≠0:=by have:=Nat.div_pos h hp;omega
 unfold n0;rw[if_neg hx,if_neg hq];have:(x/2^n).log2+n=x.log2:=by
  symm
  rw[Nat.log2_eq_iff hx];have h1:=Nat.log2_self_le hq;have h2:x/2^n<2^((x/2^n).log2+1):=Nat.lt_log2_self;rw[Nat.le_div_iff_mul_le hp,<-Nat.pow_add]at h1;rw[Nat.div_lt_iff_lt_mul hp,<-Nat.pow_add]at h2;exact ⟨h1,by rw[show (x/2^n).log2+n+1=(x/2^n).log2+1+n by omega];exact h2⟩
 omega
theorem dT {x:Nat} (h0:x≠0) (hx:x<4294967296):n0 x<=32/\1<=n0 x/\2147483648<=x*2^(32-n0 x)/\x*2^(32-n0 x)<4294967296:=by
 obtain ⟨h1,h2,h3⟩:=jR h0;have hk:n0 x<=32:=W4 (k:=32) hx;refine ⟨hk,h3,?_,?_⟩
 ·have:=Nat.mul_le_mul_right (2^(32-n0 x)) h1
  rw[<-Nat.pow_add,show n0 x-1+(32-n0 x)=31 by omega]at this;exact this
 ·have:=Nat.mul_lt_mul_of_pos_right h2 (Nat.two_pow_pos (32-n0 x))
  rw[<-Nat.pow_add,show n0 x+(32-n0 x)=32 by omega]at this;exact this
end Go.b7

namespace Go.b7
open F
section
variable {K:AV->Prop} {a b s:Nat} {k':IntKind}
theorem iS (hs:s<=32) (hk:K (.int .u32 ((P2 a s:Nat):Int))):AC .shl .u32 (a:Int) k' (s:Int) K:=by
 refine Z2 (show s<=IntKind.u32.bits from hs) ?_;rw[wrap_u32,<-gB];exact hk
theorem PG (hs:s<=64) (h:a*2^s<=18446744073709551615) (hk:K (.int .u64 ((a*2^s:Nat):Int))):AC .shl .u64 (a:Int) k' (s:Int) K:=by
 refine Z2 (show s<=IntKind.u64.bits from hs) ?_;rw[IntWalk.u64_in _ (by omega)];exact hk
theorem Z3 (n:Nat) (hx:a%2^n=0) (hy:b<2^n) (h:a+b<=4294967295) (hk:K (.int .u32 ((a+b:Nat):Int))):AC .or .u32 (a:Int) .u32 (b:Int) K :=
 Z1 n hx hy (show a+b<4294967296 by omega) (IntWalk.u32_in _ (by omega)) hk
theorem xI (n:Nat) (hx:b%2^n=0) (hy:a<2^n) (h:a+b<=4294967295) (hk:K (.int .u32 ((a+b:Nat):Int))):AC .or .u32 (a:Int) .u32 (b:Int) K:=by
 have e:DB .or .u32 (a:Int) .u32 (b:Int)=DB .or .u32 (b:Int) .u32 (a:Int):=by
  simp only[DB,if_true,BitVec.or_comm]
 rw[Nat.add_comm]at hk h;obtain ⟨v,h1,h2⟩:=Z3 (K:=K) n hx hy h hk;exact ⟨v,by rw[e];exact h1,h2⟩
theorem xL (hs:s<=32) (hk:K (.int .u32 ((a/2^s:Nat):Int))):AC .shr .u32 (a:Int) k' (s:Int) K:=PF (show s<=IntKind.u32.bits from hs) hk
end
attribute [local irreducible] AA AF AM AC BT AQ A5 AZ BG A9 BS CN BH AU BI BR AB A1 AJ pw B1 BQ B9 CM CH BF BV BB B5
set_option maxHeartbeats 1000000
variable {L:Lib}
def Z0 (a:List Nat) (s:Nat) (o:List Nat):Prop:=A2 o/\(a.length<=o.length/\o.length<=a.length+1)/\(val a*2^s<4294967296^o.length->val o=val a*2^s)
theorem Za {a o:List Nat} {s lo:Nat} (hD:A2 o) (hl:o.length=a.length) (h:val (o.take a.length)+4294967296^a.length*lo=val (a.take a.length)*2^s):Z0 a s o:=by
 refine ⟨hD,by omega,λ k6 => ?_⟩;rw[C7 (by omega),C7 (Nat.le_refl _)]at h;rw[hl]at k6;have:lo=0:=by
  rcases Nat.eq_zero_or_pos lo with h0|h0
  ·exact h0
  ·have:4294967296^a.length*1<=4294967296^a.length*lo:=Nat.mul_le_mul_left _ h0
   omega
 subst this;omega
theorem qA {a o:List Nat} {s lo:Nat} (hD:A2 o) (kb:lo<4294967296) (hl:o.length=a.length+1) (h:val (o.take a.length)+4294967296^a.length*lo=val (a.take a.length)*2^s):Z0 a s (o.set a.length lo):=by
 refine ⟨hD.set _ kb,by simp;omega,λ_ => ?_⟩;have h1:=F8 (v:=lo) (show a.length<o.length by omega);rw[C7 (by simp;omega),h,C7 (Nat.le_refl _)]at h1;exact h1
theorem Uo (N:c6 L) (a:List Nat) (q:Bool) (s n:Nat) (hA:A2 a) (hs:s<=31) (hn:a.length<=n/\n<=a.length+1) (la:a.length<=1099511627776) : ∃ r,Ev L 71 [.sl q (a.map AL),.int .u64 (s:Int),.int .i64 (n:Int)] r /\ ∃ o,Z0 a s o/\o.length=n/\r = .sl false (o.map AL):=by
 refine Ev.xE N.JT rfl rfl ?_;(repeat' (apply AE<;>conv=>whnf))
 refine DP (enc:=AL) 0 n rfl rfl (by omega) ?_;(conv=>whnf)
 (repeat' (apply AY<;>conv=>whnf))
 refine GR (λ i _ _=>a.length-i) (λ(i:Nat) (o:List Nat) (lo:Nat)=>i<=a.length/\o.length=n/\A2 o/\lo<2^s/\val (o.take i)+4294967296^i*lo=val (a.take i)*2^s) (λ i o lo=>[(8,.int .u32 (lo:Int)),(15,.int .i64 i)]) (λ i o lo=>[(71012,71012,.rw 1 (o.map AL))]) [] [] 0 (List.replicate n 0) 0 (by (conv=>whnf);exact ⟨rfl,rfl,rfl⟩) ⟨by omega,by simp,JD _,Nat.two_pow_pos s,by simp [val]⟩ ?_;intro i o lo ⟨p1,p2,p3,p4,p5⟩ ih;have oa:=V0 (s:=s) (by omega);by_cases hi:i<a.length
 ·obtain ⟨d,hd⟩ : ∃ d,a[i]? = some d:=⟨_,zE hi⟩
  have x6:=hA.at hd;obtain ⟨f1,f2,f3,f4⟩:=SF (s:=s) x6 (by omega);(repeat' ((first|(apply AG<;>intro hc<;>try (exfalso;omega))|(refine BC (by assumption) ?_ rfl ?_;omega)|apply AE)<;>conv=>whnf))
  refine iS (by omega) ?_;(conv=>whnf)
  skip
  refine Z3 s f1 p4 (by omega) ?_;(conv=>whnf)
  (repeat' ((first|(apply A3;omega)|fail)<;>conv=>whnf))
  refine E7 (by omega) ?_;(conv=>whnf)
  (repeat' ((first|(apply B7;omega)|fail)<;>conv=>whnf))
  refine PG (by omega) f4 ?_;(conv=>whnf)
  (repeat' ((first|(apply AR;omega)|apply FD|(apply D8;omega))<;>conv=>whnf))
  rw[<-SE];refine BL [] (by (conv=>whnf);exact ⟨rfl,rfl,rfl⟩) (ih (i+1) _ _ (by omega) ⟨by omega,by simpa using p2,p3.set _ (by omega),f2,?_⟩);rw[F8 (by omega),DX hd,Nat.pow_succ];exact qB p5
 ·obtain rfl:i=a.length:=by omega
  clear ih;(repeat' ((first|(apply AG<;>intro hc<;>try (exfalso;omega))|(apply A3;omega)|apply AY|apply AE)<;>conv=>whnf))
  ·refine E7 (by omega) ?_
   (conv=>whnf)
   skip
   refine ⟨_,?_,_,qA p3 (by omega) (by omega) p5,by simpa using p2,rfl⟩;(conv=>whnf)
   refine C3 (enc:=AL) (λ_=>rfl) rfl (by simp [p2]) ?_;(conv=>whnf)
   exact AW rfl (by simp only[A4,true_and];exact C0 _)
  ·refine ⟨_,?_,_,Za p3 (by omega) p5,p2,rfl⟩
   (conv=>whnf)
   refine C3 (enc:=AL) (λ_=>rfl) rfl (by simp [p2]) ?_;(conv=>whnf)
   exact AW rfl (by simp only[A4,true_and];exact C0 _)
theorem Up (N:c6 L) (a:List Nat) (q:Bool) (s:Nat) (hA:A2 a) (hs:s<=31) (la:a.length<=1099511627776) : ∃ r,Ev L 72 [.sl q (a.map AL),.int .u64 (s:Int)] r /\ ∃ o,A2 o/\o.length=a.length/\val o=val a/2^s/\r = .sl false (o.map AL):=by
 refine Ev.xE N.L1 rfl rfl ?_;(repeat' ((first|apply AY|apply AE)<;>conv=>whnf))
 refine DP (enc:=AL) 0 a.length rfl rfl (by omega) ?_;(conv=>whnf)
 (repeat' ((first|(apply BM;omega)|apply AY)<;>conv=>whnf))
 refine GR (λ n _ _=>n) (λ(n:Nat) (o:List Nat) (hi:Nat)=>n<=a.length/\o.length=a.length/\A2 o/\hi=val (a.drop n)%2^s*2^(32-s)/\val (o.drop n)=val (a.drop n)/2^s) (λ n o hi=>[(6,.int .u32 (hi:Int)),(7,.int .i64 ((n:Int)-1))]) (λ n o hi=>[(10,10,.rw 1 (o.map AL))]) [] [] a.length (List.replicate a.length 0) 0 (by (conv=>whnf);exact ⟨rfl,rfl,rfl⟩) ⟨by omega,by simp,JD _,by rw[List.drop_of_length_le (Nat.le_refl _)];simp [val],by rw[List.drop_of_length_le (Nat.le_refl _),List.drop_of_length_le (by simp)];simp [val]⟩ ?_;intro n o hi ⟨p1,p2,p3,p4,p5⟩ ih;rcases n with _|n
 ·(repeat' ((first|(apply AG<;>intro hc<;>try (exfalso;omega))|apply AE)<;>conv=>whnf))
  rw[List.drop_zero,List.drop_zero]at p5;refine ⟨_,?_,_,p3,p2,p5,rfl⟩;(conv=>whnf)
  refine C3 (enc:=AL) (λ_=>rfl) rfl p2.symm ?_;(conv=>whnf)
  exact AW rfl (by simp only[A4,true_and];exact C0 _)
 ·have e1:((n+1:Nat):Int)-1=n:=by omega
  rw[e1];obtain ⟨d,hd⟩ : ∃ d,a[n]? = some d:=⟨_,zE (by omega)⟩;have x6:=hA.at hd;obtain ⟨f1,f2,f3⟩:=qF (V:=val (a.drop (n+1))) x6 (show s<=32 by omega);obtain ⟨g1,g2,g3,g4⟩:=SF x6 (show 32-s<=32 by omega);rw[<-p4]at f2 f3;(repeat' ((first|(apply AG<;>intro hc<;>try (exfalso;omega))|(refine BC (by assumption) ?_ rfl ?_;omega)|apply AE)<;>conv=>whnf))
  refine xL (by omega) ?_;(conv=>whnf)
  skip
  refine xI (32-s) f2 f1 (by omega) ?_;(conv=>whnf)
  (repeat' ((first|(apply A3;omega)|fail)<;>conv=>whnf))
  refine E7 (by omega) ?_;(conv=>whnf)
  (repeat' ((first|(apply WY;omega)|(apply B7;omega)|(refine BC (by assumption) ?_ rfl ?_;omega))<;>conv=>whnf))
  rw[show EE 32 s=32-s by rw[SN];omega];refine PG (by omega) g4 ?_;(conv=>whnf)
  (repeat' ((first|(apply BM;omega)|apply FW)<;>conv=>whnf))
  rw[Zf (by omega)];refine BL [] (by (conv=>whnf);exact ⟨rfl,rfl,rfl⟩) (ih n _ _ (by omega) ⟨by omega,by simpa using p2,p3.set _ (by omega),?_,?_⟩)
  ·rw[HH hd,qG (by omega)]
  ·rw[HH (l:=o.set n (d/2^s+hi)) (d:=d/2^s+hi) (by rw[List.getElem?_set_self (by omega)]),List.drop_set_of_lt (by omega),p5,HH hd,dS (by omega),<-p4]
theorem X8 : ∀ n<256,(List.replicate 1 0++List.replicate 1 1++List.replicate 2 2++List.replicate 4 3++List.replicate 8 4++List.replicate 16 5++List.replicate 32 6++List.replicate 64 7++List.replicate 128 8)[n]? = some (n0 n):=by decide +kernel
theorem Qc (N:c6 L) (x:Nat) (hx:x<4294967296):Ev L 63 [.int .u32 (x:Int)] (.int .i64 (n0 x:Int)):=by
 have lj : ∀ y<256,n0 y<=8:=λ y h=>W4 (k:=8) h
 refine Ev.x N.LP rfl rfl ?_;(repeat' ((first|(apply AG<;>intro hc<;>try (exfalso;omega))|(apply AR;omega)|apply xF|apply xH|(apply wU;omega)|apply AE)<;>conv=>whnf))
 ·have Gr:=lj (x/65536/256) (by omega)
  refine W3 (X8 _ (by omega)) ?_;(conv=>whnf)
  (repeat' ((first|(apply AR;omega)|(apply Q3;omega))<;>conv=>whnf))
  have h1:n0 (x/65536)+16=n0 x:=UR 16 (x:=x) (by omega);have h2:n0 (x/65536/256)+8=n0 (x/65536):=UR 8 (x:=x/65536) (by omega);refine CP ?_;rw[<-h1,<-h2];omega
 ·have Gr:=lj (x/65536) (by omega)
  refine W3 (X8 _ (by omega)) ?_;(conv=>whnf)
  (repeat' ((first|(apply AR;omega)|(apply Q3;omega))<;>conv=>whnf))
  have h1:n0 (x/65536)+16=n0 x:=UR 16 (x:=x) (by omega);refine CP ?_;rw[<-h1];omega
 ·have Gr:=lj (x/256) (by omega)
  refine W3 (X8 _ (by omega)) ?_;(conv=>whnf)
  (repeat' ((first|(apply AR;omega)|(apply Q3;omega))<;>conv=>whnf))
  have h2:n0 (x/256)+8=n0 x:=UR 8 (x:=x) (by omega);refine CP ?_;rw[<-h2];omega
 ·have Gr:=lj (x) (by omega)
  refine W3 (X8 _ (by omega)) ?_;(conv=>whnf)
  (repeat' ((first|(apply AR;omega)|(apply Q3;omega))<;>conv=>whnf))
  refine CP ?_;omega
theorem mP (N:c6 L) (x:Nat) (hx:x<4294967296):Ev L 64 [.int .u32 (x:Int)] (.int .i64 ((32-n0 x:Nat):Int)):=by
 have h:=W4 (k:=32) hx;refine Ev.x N.LO rfl rfl ?_;(repeat' ((first|(apply BM;omega)|apply AE|refine AD (Qc N x hx) ?_)<;>conv=>whnf))
 refine CP ?_;omega
end Go.b7

namespace Go.b7
def ZV (a b c d:Int):Prop:=(0<=a/\b<=0/\c<=0/\0<=d)\/(a<=0/\0<=b/\0<=c/\d<=0)
structure Q8 (P Q a b c d p q:Int):Prop where
 hp:p=a*P+b*Q
 hq:q=c*P+d*Q
 sg:ZV a b c d
 pa:0<=p+a
 pb:0<=p+b
 qc:0<=q+c
 qd:0<=q+d
theorem Q8.start {P Q:Int} (hP:0<=P) (hQ:0<=Q):Q8 P Q 1 0 0 1 P Q :=
 ⟨by omega,by omega,Or.inl (by omega),by omega,by omega,by omega,by omega⟩
def UJ (P Q a b c d:Int):Prop := ∀ x y K e1 e2:Int,0<K->x=K*P+e1->y=K*Q+e2->0<=e1->e1<=K->0<=e2->e2<=K ->
 0<=c*x+d*y/\c*x+d*y<a*x+b*y/\a*x+b*y<=y/\Int.gcd (a*x+b*y) (c*x+d*y)=Int.gcd x y
def SY (P Q a b c d:Int):Prop := ∀ x y K e1 e2:Int,0<K->x=K*P+e1->y=K*Q+e2->0<=e1->e1<=K->0<=e2->e2<=K ->
 c*x+d*y<=y/\Int.gcd (a*x+b*y) (c*x+d*y)=Int.gcd x y
theorem SY.start (P Q:Int):SY P Q 1 0 0 1:=by
 intro x y K e1 e2 _ _ _ _ _ _ _;simp
theorem UJ.half {P Q a b c d:Int} (h:UJ P Q a b c d):SY P Q a b c d:=λ x y K e1 e2 h1 h2 h3 h4 h5 h6 h7=>by
 obtain ⟨g1,g2,g3,g4⟩:=h x y K e1 e2 h1 h2 h3 h4 h5 h6 h7;exact ⟨by omega,g4⟩
theorem Wi (X Y f:Int):Int.gcd Y (X-f*Y)=Int.gcd X Y:=by
 rw[Int.gcd_comm X Y];exact Int.gcd_sub_mul_right_right Y X f
theorem Q8.step {P Q a b c d p q f:Int} (h:Q8 P Q a b c d p q) (hc:q+c≠0) (hd:q+d≠0) (h1:f=(p+a)/(q+c)) (h2:f=(p+b)/(q+d)) :
  Q8 P Q c d (a-f*c) (b-f*d) q (p-f*q)/\0<=f/\p-f*q<q/\(SY P Q a b c d->UJ P Q c d (a-f*c) (b-f*d)):=by
 have c0:0<q+c:=by have:=h.qc;omega
 have d0:0<q+d:=by have:=h.qd;omega
 have f0:0<=f:=by rw[h1];exact Int.ediv_nonneg h.pa h.qc
 have m1:p-f*q+(a-f*c)=(p+a)%(q+c):=by
  have:=Int.emod_add_mul_ediv (p+a) (q+c)
  rw[<-h1]at this;grind
 have m2:p-f*q+(b-f*d)=(p+b)%(q+d):=by
  have:=Int.emod_add_mul_ediv (p+b) (q+d)
  rw[<-h2]at this;grind
 have n1:0<=p-f*q+(a-f*c):=by rw[m1];exact Int.emod_nonneg _ hc
 have n2:0<=p-f*q+(b-f*d):=by rw[m2];exact Int.emod_nonneg _ hd
 have n3:p-f*q+(a-f*c)<q+c:=by rw[m1];exact Int.emod_lt_of_pos _ c0
 have n4:p-f*q+(b-f*d)<q+d:=by rw[m2];exact Int.emod_lt_of_pos _ d0
 have zr:p-f*q=(a-f*c)*P+(b-f*d)*Q:=by rw[h.hp,h.hq];grind
 have od:ZV c d (a-f*c) (b-f*d):=by
  rcases h.sg with ⟨s1,s2,s3,s4⟩|⟨s1,s2,s3,s4⟩
  ·have t1:f*c<=0:=Int.mul_nonpos_of_nonneg_of_nonpos f0 s3
   have t2:0<=f*d:=Int.mul_nonneg f0 s4;exact Or.inr (by omega)
  ·have t1:0<=f*c:=Int.mul_nonneg f0 s3
   have t2:f*d<=0:=Int.mul_nonpos_of_nonneg_of_nonpos f0 s4;exact Or.inl (by omega)
 have k6:p-f*q<q:=by
  rcases od with ⟨s1,s2,s3,s4⟩|⟨s1,s2,s3,s4⟩
  ·omega
  ·omega
 refine ⟨⟨h.hq,zr,od,h.qc,h.qd,n1,n2⟩,f0,k6,λ hh => ?_⟩;intro x y K e1 e2 hK hx hy a1 a2 b1 b2;obtain ⟨k1,k2⟩:=hh x y K e1 e2 hK hx hy a1 a2 b1 b2;have eY:c*x+d*y=K*q+c*e1+d*e2:=by rw[hx,hy,h.hq];grind
 have eX:(a-f*c)*x+(b-f*d)*y=K*(p-f*q)+(a-f*c)*e1+(b-f*d)*e2:=by rw[hx,hy,zr];grind
 have eS:(a-f*c)*x+(b-f*d)*y=(a*x+b*y)-f*(c*x+d*y):=by grind
 generalize hE:a-f*c=E at *;generalize hG:b-f*d=G at *;generalize zs:p-f*q=q2 at *;have key:0<=E*x+G*y/\E*x+G*y<c*x+d*y:=by
  rw[eX,eY];rcases od with ⟨s1,s2,s3,s4⟩|⟨s1,s2,s3,s4⟩
  ·-- c≥0,d<=0,E<=0,G≥0
   have t1:E*K<=E*e1:=Int.mul_le_mul_of_nonpos_left s3 a2;have t2:0<=G*e2:=Int.mul_nonneg s4 b1;have t3:0<=K*(q2+E):=Int.mul_nonneg (by omega) n1;have t4:(G-d)*e2<=(G-d)*K:=Int.mul_le_mul_of_nonneg_left b2 (by omega);have t5:(E-c)*e1<=0:=Int.mul_nonpos_of_nonpos_of_nonneg (by omega) a1;have t6:0<K*((q+d)-(q2+G)):=Int.mul_pos hK (by omega);constructor
   ·grind
   ·grind
  ·have t1:G*K<=G*e2:=Int.mul_le_mul_of_nonpos_left s4 b2
   have t2:0<=E*e1:=Int.mul_nonneg s3 a1;have t3:0<=K*(q2+G):=Int.mul_nonneg (by omega) n2;have t4:(E-c)*e1<=(E-c)*K:=Int.mul_le_mul_of_nonneg_left a2 (by omega);have t5:(G-d)*e2<=0:=Int.mul_nonpos_of_nonpos_of_nonneg (by omega) b1;have t6:0<K*((q+c)-(q2+E)):=Int.mul_pos hK (by omega);constructor
   ·grind
   ·grind
 refine ⟨key.1,key.2,k1,?_⟩;rw[<-k2,eS];exact Wi _ _ _
end Go.b7

namespace Go.b7
theorem vC {A w C:List Nat} {i n:Nat} (hi:i=A.length+n) (hn:n<w.length):(A++w++C)[i]? = w[n]? := by
 subst hi;rw[List.append_assoc,List.getElem?_append_right (by omega),Nat.add_sub_cancel_left,List.getElem?_append_left hn]
theorem AgA {A w C:List Nat} {i n v:Nat} (hi:i=A.length+n) (hn:n<w.length):(A++w++C).set i v=A++w.set n v++C:=by
 subst hi;rw[List.append_assoc,List.set_append_right _ _ (by omega),Nat.add_sub_cancel_left,List.set_append_left _ _ hn,List.append_assoc]
theorem OL {A w C:List Nat} {i v:Nat} {KK:List (List AV)->Prop} (n:Nat) (hi:i=A.length+n) (hn:n<w.length) (h:KK ((A++w.set n v++C).map AL)):AZ ((A++w++C).map AL) i 0 [.int .u32 (v:Int)] KK:=by
 have hl:i<(A++w++C).length:=by simp;omega
 refine GC (enc:=AL) i v rfl rfl (λ_=>rfl) hl ?_;rw[AgA hi hn];exact h
theorem Xu {W X Vi p q u d c b pr t:Nat} (h:W+q*Vi=X+p*(c+b)) (nz:pr=q*d+c) (ht:t=EE (EE u (pr%4294967296)) b) (hu:u<4294967296) (hb:b<=1) :
  W+p*(t%4294967296)+q*(Vi+p*d)=X+p*u+p*4294967296*(pr/4294967296+t/9223372036854775808):=by
 obtain ⟨h1,_⟩:=ZF hu (show pr%4294967296<4294967296 by omega) hb;rw[<-ht]at h1;have h2:=Nat.mod_add_div pr 4294967296;generalize t%4294967296=w at *;generalize t/9223372036854775808=b' at *;generalize pr%4294967296=pl at *;generalize pr/4294967296=ph at *;have e1:p*(w+pl+b)=p*(u+4294967296*b'):=by rw[h1]
 have e2:p*(pl+4294967296*ph)=p*(q*d+c):=by rw[h2,nz]
 grind
theorem qW {q d c pr:Nat} (hq:q<4294967296) (hd:d<4294967296) (hc:c<4294967296) (nz:pr=q*d+c):pr/4294967296<4294967296/\pr<=18446744073709551615/\q*d<=18446744065119617025:=by
 have:=TR hq hd
 omega
theorem Xr {W X V p q u c b t:Nat} (h:W+q*V=X+p*(c+b)) (ht:t=EE (EE u c) b) (hu:u<4294967296) (hc:c<4294967296) (hb:b<=1) :
  W+p*(t%4294967296)+q*V=X+p*u+p*4294967296*(t/9223372036854775808):=by
 obtain ⟨h1,_⟩:=ZF hu hc hb;rw[<-ht]at h1;generalize t%4294967296=w at *;generalize t/9223372036854775808=b' at *;have e1:p*(w+c+b)=p*(u+4294967296*b'):=by rw[h1]
 grind
theorem Xv {W X Vi p q u d c b pr w take have' z9:Nat} (h:W+q*Vi=X+p*(c+b)) (nz:pr=c+q*d) (h1:take=pr%4294967296+b) (h2:(have'=u/\z9=0/\take<=u)\/(have'=u+4294967296/\z9=1/\u<take)) (h3:w+take=have') :
  W+p*w+q*(Vi+p*d)=X+p*u+p*4294967296*(pr/4294967296+z9):=by
 have h4:=Nat.mod_add_div pr 4294967296;have h5:w+pr%4294967296+b=u+4294967296*z9:=by omega
 generalize pr%4294967296=pl at *;generalize pr/4294967296=ph at *;have e1:p*(w+pl+b)=p*(u+4294967296*z9):=by rw[h5]
 have e2:p*(pl+4294967296*ph)=p*(c+q*d):=by rw[h4,nz]
 grind
theorem Xt {W X V p q u c b w take have' z9:Nat} (h:W+q*V=X+p*(c+b)) (h1:take=c+b) (h2:(have'=u/\z9=0/\take<=u)\/(have'=u+4294967296/\z9=1/\u<take)) (h3:w+take=have') :
  W+p*w+q*V=X+p*u+p*4294967296*z9:=by
 have h5:w+c+b=u+4294967296*z9:=by omega
 have e1:p*(w+c+b)=p*(u+4294967296*z9):=by rw[h5]
 grind
theorem jH {W X Vi p w d c t:Nat} (h:W+p*c=X+Vi) (ht:t=w+d+c):W+p*(t%4294967296)+p*4294967296*(t/4294967296)=X+p*w+(Vi+p*d):=by
 have h1:=PK W p t;have e:p*t=p*w+p*d+p*c:=by rw[ht];grind
 omega
theorem jG {W X V R p w c:Nat} (h:W+p*c=X+V) (hX:X+p*w+V=R+p*4294967296) (hR:R<p*4294967296) (hW:W<p):W+p*((w+c)%4294967296)=R:=by
 have h1:W+p*(w+c)=R+p*4294967296:=by
  rw[Nat.mul_add];omega
 have h2:=Nat.mod_add_div (w+c) 4294967296;have h3:p*(w+c)=p*((w+c)%4294967296)+p*4294967296*((w+c)/4294967296):=by
  rw[Nat.mul_assoc,<-Nat.mul_add,h2]
 have h4:(w+c)%4294967296<4294967296:=Nat.mod_lt _ (by omega);generalize (w+c)%4294967296=m at *;generalize (w+c)/4294967296=k at *;have h5:W+p*m<p*4294967296:=by
  have:p*m+p<=p*4294967296:=by rw[<-Nat.mul_succ];exact Nat.mul_le_mul_left p (by omega)
  omega
 have h6:k=1:=by
  rcases Nat.lt_trichotomy k 1 with hk|hk|hk
  ·have:k=0:=by omega
   subst this;omega
  ·exact hk
  ·have:p*4294967296*2<=p*4294967296*k:=Nat.mul_le_mul_left _ (by omega)
   omega
 subst h6;omega
theorem Agm {U V UL VL p u2 v2 v1 top:Nat} (hU:U=UL+p*(u2+4294967296*top)) (hV:V=VL+p*(v2+4294967296*v1)) (wo:VL<p) (h2:v2<4294967296) (h:U<4294967296*V):top<4294967296*(v1+1):=by
 have h3:V<p*(4294967296*(v1+1)):=by
  have:p*(v2+4294967296*v1)+p<=p*(4294967296*(v1+1)):=by
   rw[<-Nat.mul_succ];exact Nat.mul_le_mul_left p (by omega)
  omega
 have h4:p*(4294967296*top)<=U:=by
  have:p*(4294967296*top)<=p*(u2+4294967296*top):=Nat.mul_le_mul_left p (by omega)
  omega
 have h5:p*(4294967296*top)<p*(4294967296*(4294967296*(v1+1))):=by
  have:p*(4294967296*(4294967296*(v1+1)))=4294967296*(p*(4294967296*(v1+1))):=by grind
  omega
 have:=Nat.lt_of_mul_lt_mul_left h5
 omega
structure Gs (U V v1 v2 u2 top q r:Nat):Prop where
 hq:q*v1+r=top
 hr:r<4294967296
 ge:U/V<=q
theorem Gs.next {U V UL VL p v1 v2 u2 top q r:Nat} (g:Gs U V v1 v2 u2 top q r) (hU:U=UL+p*(u2+4294967296*top)) (hV:V=VL+p*(v2+4294967296*v1)) (zd:UL<p) (w5:0<V) (Du:U<4294967296*V)
  (h:4294967296<=q\/r*4294967296+u2<q*v2):1<=q/\(q-1)*v1+(r+v1)=top/\U/V<=q-1:=by
 have h1:U/V<q:=by
  rcases h with h|h
  ·exact Wu Du h w5
  ·exact Wv hU hV zd g.hq h w5
 have hq:=g.hq;clear h g hU hV Du;generalize U/V=Q at *;obtain ⟨k,rfl⟩ : ∃ k,q=k+1:=⟨q-1,by omega⟩;refine ⟨by omega,?_,by omega⟩;rw[Nat.add_sub_cancel,<-hq,Nat.add_mul];omega
theorem Gs.start {U V UL VL p v1 v2 u2 top:Nat} (hU:U=UL+p*(u2+4294967296*top)) (hV:V=VL+p*(v2+4294967296*v1)) (zd:UL<p) (h2:u2<4294967296) (w5:0<V) (h1:0<v1) (h1b:v1<4294967296):Gs U V v1 v2 u2 top (top/v1) (top%v1):=by
 refine ⟨by rw[Nat.mul_comm];exact Nat.div_add_mod _ _,?_,?_⟩
 ·have:=Nat.mod_lt top h1
  omega
 ·rw[Nat.le_div_iff_mul_le h1]
  exact Ww hU hV zd h2 w5
theorem TI {U V UL VL p v1 v2 u2 top q r:Nat} (hU:U=UL+p*(u2+4294967296*top)) (hV:V=VL+p*(v2+4294967296*v1)) (wo:VL<p) (Er:2147483648<=v1) (Es:v2<4294967296) (Du:U<4294967296*V) (hq:q*v1+r=top)
  (h:(q<4294967296/\q*v2<=r*4294967296+u2)\/4294967296<=r):q<4294967296/\q<=U/V+1:=by
 rcases h with ⟨h1,h2⟩|h
 ·exact ⟨h1,oV hU hV wo Er hq h2 h1⟩
 ·have ht:=Agm hU hV wo Es Du
  have rj:q<4294967296:=by
   have h3:q*v1<4294967296*v1:=by omega
   exact Nat.lt_of_mul_lt_mul_right h3
  refine ⟨rj,oV hU hV wo Er hq ?_ rj⟩;have:=TR rj Es
  omega
theorem SL (a:List Nat) (k:Nat):val a=val (a.take k)+4294967296^k*val (a.drop k):=by
 rcases Nat.lt_or_ge a.length k with h|h
 ·rw[List.take_of_length_le (by omega),List.drop_of_length_le (by omega),I7];omega
 ·exact J7 a k h
theorem SK (a:List Nat) (k:Nat):val (a.drop k)=a.getD k 0+4294967296*val (a.drop (k+1)):=by
 rcases Nat.lt_or_ge k a.length with h|h
 ·rw[HH (zE h),List.getD_eq_getElem?_getD,zE h];rfl
 ·rw[List.drop_of_length_le h,List.drop_of_length_le (by omega),List.getD_eq_getElem?_getD,List.getElem?_eq_none h];rfl
theorem QO {a:List Nat} (h:A2 a) (k:Nat):a.getD k 0<4294967296:=by
 rw[List.getD_eq_getElem?_getD];cases e:a[k]? with
 | none=>simp
 | some d=>simpa using h.at e
theorem getD_some {a:List Nat} {k d:Nat} (h:a[k]? = some d):d=a.getD k 0:=by rw[List.getD_eq_getElem?_getD,h];rfl
theorem QP {a:List Nat} {k:Nat} (h:a.length<=k):0=a.getD k 0:=by rw[List.getD_eq_getElem?_getD,List.getElem?_eq_none h];rfl
theorem ZK {a:List Nat} (hD:A2 a) {n:Nat} (hn:3<=n) (hl:a.length<=n) : ∃ r,r<4294967296^(n-3)/\val a=r+4294967296^(n-3)*(a.getD (n-3) 0+4294967296*(a.getD (n-2) 0+4294967296*a.getD (n-1) 0)):=by
 refine ⟨val (a.take (n-3)),?_,?_⟩
 ·refine Nat.lt_of_lt_of_le (E0 (hD.take _)) (Nat.pow_le_pow_right (by omega) ?_)
  rw[List.length_take];omega
 ·have h1:=SL a (n-3)
  have h2:=SK a (n-3);have h3:=SK a (n-3+1);have h4:=SK a (n-3+1+1);rw[List.drop_of_length_le (show a.length<=n-3+1+1+1 by omega),I7]at h4;rw[show n-3+1=n-2 by omega]at *;rw[show n-2+1=n-1 by omega]at *;rw[h4,Nat.mul_zero,Nat.add_zero]at h3;rw[h3]at h2;rw[h2]at h1;exact h1
theorem uX {a:List Nat} (hD:A2 a) {n:Nat} (hn:2<=n) (hl:a.length<=n) : ∃ r,r<4294967296^(n-2)/\val a=r+4294967296^(n-2)*(a.getD (n-2) 0+4294967296*a.getD (n-1) 0):=by
 refine ⟨val (a.take (n-2)),?_,?_⟩
 ·refine Nat.lt_of_lt_of_le (E0 (hD.take _)) (Nat.pow_le_pow_right (by omega) ?_)
  rw[List.length_take];omega
 ·have h1:=SL a (n-2)
  have h2:=SK a (n-2);have h3:=SK a (n-2+1);rw[List.drop_of_length_le (show a.length<=n-2+1+1 by omega),I7]at h3;rw[show n-2+1=n-1 by omega]at *;rw[h3,Nat.mul_zero,Nat.add_zero]at h2;rw[h2]at h1;exact h1
theorem QI {a b:Nat} (h:a<=b):(dg a).length<=(dg b).length:=by
 rcases Nat.lt_or_ge (dg b).length (dg a).length with h1|h1
 ·have:=UD h1;omega
 ·exact h1
theorem bF {p:Nat} (h:p<18446744073709551616):val [p%4294967296,p/4294967296]=p/\A2 [p%4294967296,p/4294967296]:=by
 refine ⟨by simp [val];omega,λ x hx => ?_⟩;simp at hx;omega
theorem GV {a:List Nat} {k d:Nat} (h:a[k]? = some d):a.getD k 0=d:=(getD_some h).symm
theorem dM {y:List Nat} {s yt:Nat} (hD:A2 y) (tv:y[y.length-1]? = some yt) (hl:1<=y.length) (hs:s<=31) (b3:2147483648<=yt*2^s) (b4:yt*2^s<4294967296):val y*2^s<4294967296^y.length/\4294967296^(y.length-1)*2147483648<=val y*2^s:=by
 have h1:=J7 y (y.length-1) (by omega);have h2:=HH tv;rw[List.drop_of_length_le (show y.length<=y.length-1+1 by omega),I7,Nat.mul_zero,Nat.add_zero]at h2;rw[h2]at h1;have h3:=E0 (hD.take (y.length-1));rw[List.length_take,Nat.min_eq_left (by omega)]at h3;have e:4294967296^y.length=4294967296^(y.length-1)*4294967296:=by rw[<-Nat.pow_succ,Nat.succ_eq_add_one,show y.length-1+1=y.length by omega]
 rw[e];generalize 4294967296^(y.length-1)=p at *;have hk:(yt+1)*2^s<=4294967296:=by
  have e2:4294967296=2^s*2^(32-s):=by rw[<-Nat.pow_add,show s+(32-s)=32 by omega]
  rw[e2,Nat.mul_comm]at b4;have:=Nat.lt_of_mul_lt_mul_left b4
  rw[e2,Nat.mul_comm];exact Nat.mul_le_mul_left _ this
 have h4:val y+1<=p*(yt+1):=by rw[Nat.mul_add];omega
 have h5:=Nat.mul_le_mul_right (2^s) h4;have h6:p*((yt+1)*2^s)<=p*4294967296:=Nat.mul_le_mul_left p hk;rw[<-Nat.mul_assoc]at h6;have h7:p*2147483648<=p*(yt*2^s):=Nat.mul_le_mul_left p b3;have h8:p*(yt*2^s)<=val y*2^s:=by rw[<-Nat.mul_assoc];exact Nat.mul_le_mul_right _ (by omega)
 have h9:=Nat.two_pow_pos s;rw[Nat.add_mul]at h5;exact ⟨by omega,by omega⟩
theorem uR {v:List Nat} {k c d:Nat} (hD:A2 v) (hl:v.length=k+1) (h:4294967296^k*c<=val v) (hd:v[k]? = some d):c<=d:=by
 have h1:=J7 v k (by omega);have h2:=HH hd;rw[List.drop_of_length_le (show v.length<=k+1 by omega),I7,Nat.mul_zero,Nat.add_zero]at h2;rw[h2]at h1;have h3:=E0 (hD.take k);rw[List.length_take,Nat.min_eq_left (by omega)]at h3;generalize 4294967296^k=p at *;have h4:p*c<p*(d+1):=by rw[Nat.mul_add];omega
 have:=Nat.lt_of_mul_lt_mul_left h4
 omega
theorem mF (o:List Nat) (j n:Nat) (h:j+n<=o.length) : ∃ A W C,A.length=j/\W.length=n/\o=A++W++C:=by
 refine ⟨o.take j,(o.drop j).take n,(o.drop j).drop n,by simp;omega,by simp;omega,?_⟩;rw[List.append_assoc,List.take_append_drop,List.take_append_drop]
theorem lJ {A W C:List Nat} (h:A2 (A++W++C)):A2 A/\A2 W/\A2 C:=by
 refine ⟨λ x hx=>h x (by simp [hx]),λ x hx=>h x (by simp [hx]),λ x hx=>h x (by simp [hx])⟩
theorem mH {A W C:List Nat} {j l V:Nat} (hA:A.length=j) (hW:W.length=l+1) (hD:A2 (A++W++C)) (h:val ((A++W++C).drop (j+1))<V) (hV:V<4294967296^l) :
  val C=0/\val W<4294967296*V/\val ((A++W++C).take (j+1))+4294967296^(j+1)*val ((A++W++C).drop (j+1))=val A+4294967296^j*val W:=by
 have h1:=SL (A++W++C) (j+1);have h2:val (A++W++C)=val A+4294967296^j*(val W+4294967296^(l+1)*val C):=by
  rw[List.append_assoc,UC,UC,hA,hW]
 have h3:=SK (A++W++C) j;have h4:(A++W++C).drop j=W++C:=by
  rw[List.append_assoc,List.drop_append_of_le_length (by omega),List.drop_of_length_le (by omega)];rfl
 have h5:=QO hD j;rw[h4,UC,hW]at h3;rw[Nat.pow_succ]at h3;have h6:val C=0:=by
  rcases Nat.eq_zero_or_pos (val C) with h0|h0
  ·exact h0
  ·have:4294967296^l*4294967296*1<=4294967296^l*4294967296*val C:=Nat.mul_le_mul_left _ h0
   omega
 rw[h6,Nat.mul_zero,Nat.add_zero]at h3;refine ⟨h6,by omega,?_⟩;rw[<-h1,h2,h6,Nat.mul_zero,Nat.add_zero]
theorem bU {A W C:List Nat} {j:Nat} (hA:A.length=j) (hC:val C=0):val ((A++W++C).drop j)=val W/\val ((A++W++C).take j)=val A:=by
 rw[List.append_assoc,List.drop_append_of_le_length (by omega),List.drop_of_length_le (by omega),List.take_append_of_le_length (by omega),List.take_of_length_le (by omega),List.nil_append,UC,hC];simp
theorem mG {U VA P Q q V W R:Nat} (h:U=VA+P*W+P*4294967296*(Q*V)) (h2:W=q*V+R):U=VA+P*((q+4294967296*Q)*V+R):=by
 rw[h,h2];grind
section
variable {a b:Nat} {K:AV->Prop}
theorem iR (n:Nat) (hx:a%2^n=0) (hy:b<2^n) (h:a+b<=18446744073709551615) (hk:K (.int .u64 ((a+b:Nat):Int))):AC .or .u64 (a:Int) .u64 (b:Int) K :=
 Z1 n hx hy (show a+b<18446744073709551616 by omega) (IntWalk.u64_in _ (by omega)) hk
theorem WU (n:Nat) (hx:b%2^n=0) (hy:a<2^n) (h:a+b<=18446744073709551615) (hk:K (.int .u64 ((a+b:Nat):Int))):AC .or .u64 (a:Int) .u64 (b:Int) K:=by
 have e:DB .or .u64 (a:Int) .u64 (b:Int)=DB .or .u64 (b:Int) .u64 (a:Int):=by
  simp only[DB,if_true,BitVec.or_comm]
 rw[Nat.add_comm]at hk h;have hh:=iR (K:=K) n hx hy h hk;unfold AC at hh ⊢;rw[e];exact hh
end
theorem WT {a:Nat} {K:AV->Prop} (h:a<=18446744069414584319) (hk:K (.int .u64 ((a+4294967296:Nat):Int))):AC .add .u64 (a:Int) .u64 4294967296 K :=
 GA (b:=4294967296) (by omega) hk
theorem JO {l:List Nat} {i e:Nat} {K:List AV->Prop} (he:l[i]? = some e) (h:K (AL e)):A5 (l.map AL) (0+((i:Int)).toNat) 0 1 K :=
 ZX (e:=e) (by rw[Nat.zero_add,Int.toNat_natCast];exact he) rfl h
theorem xC {l:List Nat} {i:Int} {e:Nat} {K:List AV->Prop} (he:l[i.toNat]? = some e) (h:K (AL e)):A5 (l.map AL) (0+i.toNat) 0 1 K :=
 ZX (e:=e) (by rw[Nat.zero_add];exact he) rfl h
theorem P9 {A w C:List Nat} {i e:Nat} {K:List AV->Prop} (n:Nat) (he:w[n]? = some e) (hi:i=A.length+n) (h:K (AL e)):A5 ((A++w++C).map AL) i 0 1 K:=by
 have hn:=(zS he).1;exact ZX (e:=e) (by rw[vC hi hn];exact he) rfl h
end Go.b7

namespace Go.b7
def TJ (n s:Nat):Nat:=4294967296^(n-3)*(2^(32-s)*4)
theorem Yy (n s:Nat):0<TJ n s:=Nat.mul_pos (Nat.pow_pos (by omega)) (Nat.mul_pos (Nat.two_pow_pos _) (by omega))
theorem pN {a:List Nat} (hD:A2 a) {n s d1 d2 d3:Nat} (hn:3<=n) (hl:a.length<=n) (hs:s<=31) (h1:d1=a.getD (n-1) 0) (h2:d2=a.getD (n-2) 0) (h3:d3=a.getD (n-3) 0) :
  ((d1*4294967296+d2)*2^s+d3*2^s/4294967296)/4=val a/TJ n s:=by
 obtain ⟨r,hr,hv⟩:=ZK hD hn hl;rw[<-h1,<-h2,<-h3]at hv;unfold TJ;rw[hv,<-Nat.div_div_eq_div_mul,Nat.add_mul_div_left _ _ (Nat.pow_pos (by omega)),Nat.div_eq_of_lt hr,Nat.zero_add,<-Nat.div_div_eq_div_mul];congr 1;have e:d3+4294967296*(d2+4294967296*d1)=d3+2^(32-s)*(2^s*(d1*4294967296+d2)):=by
  rw[<-Nat.mul_assoc,<-Nat.pow_add,show 32-s+s=32 by omega];omega
 rw[e,Nat.add_mul_div_left _ _ (Nat.two_pow_pos _)];have:=sU (d:=d3) (s:=s) (by omega)
 rw[SE]at this;rw[this,Nat.mul_comm (2^s)];omega
theorem pP {a:List Nat} (hD:A2 a) {n s d1 d2:Nat} (hn:3<=n) (hl:a.length<=n) (h1:d1=a.getD (n-1) 0) (h2:d2=a.getD (n-2) 0) (k6:val a*2^s<4294967296^n) :
  (d1*4294967296+d2)*2^s<=18446744073709551615:=by
 obtain ⟨r,hr,hv⟩:=ZK hD hn hl;rw[<-h1,<-h2]at hv;generalize a.getD (n-3) 0=d3 at *;have e:4294967296^n=4294967296^(n-3)*(4294967296*18446744073709551616):=by
  rw[show n=n-3+3 by omega,Nat.pow_add,show n-3+3-3=n-3 by omega]
 rw[e,hv]at k6;generalize 4294967296^(n-3)=p at *;have h3:p*(4294967296*((d1*4294967296+d2)*2^s))<p*(4294967296*18446744073709551616):=by
  refine Nat.lt_of_le_of_lt ?_ k6;rw[<-Nat.mul_assoc,<-Nat.mul_assoc];refine Nat.mul_le_mul_right _ ?_;have h5:p*(4294967296*(d2+4294967296*d1))<=p*(d3+4294967296*(d2+4294967296*d1)):=Nat.mul_le_mul_left p (by omega);rw[Nat.mul_assoc,show d1*4294967296+d2=d2+4294967296*d1 by omega];omega
 have:=Nat.lt_of_mul_lt_mul_left (Nat.lt_of_mul_lt_mul_left h3)
 omega
theorem YE {k s:Nat} (hs:s<=64) (h:k*2^s<=18446744073709551615):k*2^s+2^s<=18446744073709551616:=by
 have e:18446744073709551616=2^(64-s)*2^s:=by rw[<-Nat.pow_add,show 64-s+s=64 by omega]
 have h1:k<2^(64-s):=by
  refine Nat.lt_of_mul_lt_mul_right (a:=2^s) ?_;rw[<-e];omega
 have h2:=Nat.mul_le_mul_right (2^s) h1;rw[Nat.succ_mul,<-e]at h2;exact h2
theorem pQ {a:List Nat} (hD:A2 a) {n s:Nat} (hn:3<=n) (hl:a.length<=n) (hs:s<=31) (k6:val a*2^s<4294967296^n):val a/TJ n s<=4611686018427387904:=by
 rw[<-pN hD hn hl hs rfl rfl rfl];have h1:=pP hD hn hl rfl rfl k6;have b3:=QO hD (n-3);have h2:=YE (show s<=64 by omega) h1;obtain ⟨_,h3,_,_⟩:=SF (s:=s) b3 (by omega);rw[SE]at h3;generalize (a.getD (n-1) 0*4294967296+a.getD (n-2) 0)*2^s=T at *;generalize a.getD (n-3) 0*2^s=U at *;omega
theorem pR {V K:Nat} (hK:0<K) : ∃ e:Int,(V:Int)=(K:Int)*((V/K:Nat):Int)+e/\0<=e/\e<=K:=by
 refine ⟨((V%K:Nat):Int),?_,by omega,?_⟩
 ·have:=Nat.div_add_mod V K
  have h2:((K*(V/K)+V%K:Nat):Int)=(V:Int):=by rw[this]
  rw[<-h2];simp
 ·have:=Nat.mod_lt V hK
  omega
def UW (t:Int):Nat:=(t%4294967296).toNat
theorem kO (t:Int):UW t<4294967296:=by unfold UW;omega
theorem aT (t:Int):(UW t:Int)=t%4294967296:=by unfold UW;omega
def P8 (f g:Int):Prop:=(0<=f/\f<=2147483647 /\ -2147483647<=g/\g<=0)\/(-2147483647<=f/\f<=0/\0<=g/\g<=2147483647)
theorem sS {f:Int} {d:Nat} (hd:d<4294967296):(0<=f->f<=2147483647->0<=f*d/\f*d<=9223372030412324865)/\(f<=0 -> -2147483647<=f->f*d<=0 /\ -9223372030412324865<=f*d):=by
 constructor
 ·intro h0 h1
  refine ⟨Int.mul_nonneg h0 (by omega),?_⟩;have:f*d<=2147483647*4294967295:=Int.mul_le_mul h1 (by omega) (by omega) (by omega)
  omega
 ·intro h0 h1
  have a1:0<=(-f)*d:=Int.mul_nonneg (by omega) (by omega);have a2:(-f)*d<=2147483647*4294967295:=Int.mul_le_mul (by omega) (by omega) (by omega) (by omega);rw[Int.neg_mul]at a1 a2;omega
theorem P8.Mv {f g:Int} (h:P8 f g) {d e:Nat} (hd:d<4294967296) (he:e<4294967296):(-9223372030412324865<=f*d/\f*d<=9223372030412324865)/\(-9223372030412324865<=g*e/\g*e<=9223372030412324865) /\ -9223372030412324865<=f*d+g*e/\f*d+g*e<=9223372030412324865:=by
 obtain ⟨a1,a2⟩:=sS (f:=f) hd;obtain ⟨b1,b2⟩:=sS (f:=g) he;rcases h with ⟨h1,h2,h3,h4⟩|⟨h1,h2,h3,h4⟩
 ·have:=a1 h1 h2;have:=b2 h4 h3;omega
 ·have:=a2 h2 h1;have:=b1 h3 h4;omega
theorem kP {V X Y p c f g d e t:Int} (h:V+p*c=f*X+g*Y) (ht:t=f*d+c+g*e):V+p*(t%4294967296)+p*4294967296*(t/4294967296)=f*(X+p*d)+g*(Y+p*e):=by
 have h1:=Int.emod_add_mul_ediv t 4294967296;have h2:p*(t%4294967296)+p*4294967296*(t/4294967296)=p*t:=by
  rw[Int.mul_assoc,<-Int.mul_add,h1]
 have h3:p*t=f*(p*d)+p*c+g*(p*e):=by rw[ht];grind
 have h4:f*(X+p*d)=f*X+f*(p*d):=by rw[Int.mul_add]
 have h5:g*(Y+p*e)=g*Y+g*(p*e):=by rw[Int.mul_add]
 omega
theorem Pg {V P:Nat} {c R:Int} (hV:V<P) (h:(V:Int)+P*c=R) (h0:0<=R) (h1:R<P):(V:Int)=R:=by
 have hc:c=0:=by
  rcases Int.lt_trichotomy c 0 with hc|hc|hc
  ·have:(P:Int)*c<=P*(-1):=Int.mul_le_mul_of_nonneg_left (by omega) (by omega)
   omega
  ·exact hc
  ·have:(P:Int)*1<=P*c:=Int.mul_le_mul_of_nonneg_left (by omega) (by omega)
   omega
 subst hc;omega
theorem VH (x y:Nat):Nat.gcd y (x%y)=Nat.gcd x y:=by
 rw[Nat.gcd_comm x y,Nat.gcd_rec y x];exact Nat.gcd_comm _ _
end Go.b7

namespace Go.b7
open F
attribute [local irreducible] AA AF AM AC BT AQ A5 AZ BG A9 BS CN BH AU BI BR AB A1 AJ pw B1 BQ B9 CM CH BF BV BB B5
variable {L:Lib}
set_option maxHeartbeats 4000000
theorem JP (l:List Nat):A4 (.sl false (l.map AL)):=by
 simp only[A4,true_and];exact C0 l
theorem jL {M:Mem} {v:AV} {ky t z off len s:Nat} {l:List Nat} (hv:v = .row ky t z off len) (h:c7 M ky=some (s,.rw 1 (l.map AL))):RC M v=none:=by
 subst hv;unfold RC;split
 ·rename_i e
  simp only[AV.row.injEq]at e;obtain ⟨rfl,_⟩:=e;rw[h];cases l with
  | nil=>rfl
  | cons a l=>cases l<;>rfl
 ·rfl
theorem GL (N:c8 L) (l:List Nat) (q:Bool) (hD:A2 l) (hl:l.length<=1099511627776):Ev L 101 [.sl q (l.map AL)] (.sl false ((dg (val l)).map AL)):=by
 refine Ev.x N.HV rfl rfl ?_;(repeat' ((first|apply AY|apply AE)<;>conv=>whnf))
 refine CK (λ n=>n) (λ(n:Nat)=>n<=l.length /\ ∀ i,n<=i->i<l.length->l[i]? = some 0) (λ n=>[(3,.int .i64 n)]) (λ_=>[]) [] [] l.length (by (conv=>whnf);exact ⟨rfl,rfl,rfl⟩) ⟨Nat.le_refl _,λ i h1 h2=>by omega⟩ ?_;intro n ⟨p1,p2⟩ ih;rcases n with _|n
 ·have hv:=GI hD p1 p2 (Or.inl rfl)
  rw[<-hv];clear ih;(repeat' ((first|(apply AG<;>intro hc<;>try (exfalso;omega))|apply AE)<;>conv=>whnf))
  refine QD (k:=0) (λ_=>rfl) (by omega) ?_;(conv=>whnf)
  refine P7 (enc:=AL) (λ_=>rfl) (by rw[List.length_take];omega) (by rw[List.length_take];omega) ?_;(conv=>whnf)
  (repeat' ((refine C3 (λ_=>rfl) rfl ?_ ?_;(first|rfl|simp))<;>conv=>whnf))
  exact AW rfl (JP _)
 ·have e1:((n+1:Nat):Int)-1=n:=by omega
  (repeat' ((first|(apply AG<;>intro hc<;>try (exfalso;omega))|(apply BM;omega)|(refine QB (by assumption) ?_ (λ e he hb => ?_);omega)|apply AE)<;>conv=>whnf))
  ·rw[e1]
   exact BO [] (ih n (by omega) ⟨by omega,λ i h1 h2=>by
    by_cases h:i=n
    ·subst h
     rw[e1,Int.toNat_natCast]at he;rw[he];congr 1;omega
    ·exact p2 i (by omega) h2⟩)
  ·rw[e1,Int.toNat_natCast]at he
   have hv:=GI hD p1 p2 (Or.inr ⟨e,he,by omega⟩);rw[<-hv];clear ih;refine QD (k:=n+1) (λ_=>rfl) (by omega) ?_;(conv=>whnf)
   refine P7 (enc:=AL) (λ_=>rfl) (by rw[List.length_take];omega) (by rw[List.length_take];omega) ?_;(conv=>whnf)
   (repeat' ((refine C3 (λ_=>rfl) rfl ?_ ?_;(first|rfl|simp))<;>conv=>whnf))
   exact AW rfl (JP _)
theorem cG (N:c8 L) (a b:List Nat) (q1 q2:Bool) (hA:A2 a) (hB:A2 b) (la:a.length<=1099511627776) (lb:b.length<=1099511627776):Ev L 102 [.sl q1 (a.map AL),.sl q2 (b.map AL)] (.int .i64 (C5 (val a) (val b))):=by
 have t1:=λ q=>GL N a q hA la
 have t2:=λ q=>GL N b q hB lb
 have l1:=ES hA;have l2:=ES hB;have d1:=DT (val a);have d2:=DT (val b);refine Ev.x N.ND rfl rfl ?_;by_cases hlen:(dg (val a)).length=(dg (val b)).length
 ·have v1:=BP (val a)
  have v2:=BP (val b);generalize dg (val a)=X at *;generalize dg (val b)=Y at *;(repeat' ((first|(apply AG<;>intro hc<;>try (exfalso;omega))|(apply BM;omega)|apply AY|apply AE|refine AD (t1 _) ?_|refine AD (t2 _) ?_)<;>conv=>whnf))
  refine CK (λ n=>n) (λ(n:Nat)=>n<=X.length/\X.drop n=Y.drop n) (λ n=>[(5,.int .i64 ((n:Int)-1))]) (λ_=>[]) [] [] X.length (by (conv=>whnf);exact ⟨rfl,rfl,rfl⟩) ⟨Nat.le_refl _,by rw[List.drop_of_length_le (Nat.le_refl _),List.drop_of_length_le (by omega)]⟩ ?_;intro n ⟨p1,p2⟩ ih;rcases n with _|n
  ·(repeat' ((first|(apply AG<;>intro hc<;>try (exfalso;omega))|apply AE)<;>conv=>whnf))
   rw[List.drop_zero,List.drop_zero]at p2;exact CP (RH (by rw[<-v1,<-v2,p2]))
  ·have e1:((n+1:Nat):Int)-1=n:=by omega
   rw[e1];obtain ⟨x,hx⟩ : ∃ x,X[n]? = some x:=⟨_,zE (by omega)⟩;obtain ⟨y,hy⟩ : ∃ y,Y[n]? = some y:=⟨_,zE (by omega)⟩;rcases Nat.lt_trichotomy x y with h|h|h
   ·have:=ZH d1 d2 hlen hx hy p2 h
    (repeat' ((first|(apply AG<;>intro hc<;>try (exfalso;omega))|(refine BC (by assumption) ?_ rfl ?_;omega)|apply AE)<;>conv=>whnf))
    exact CP (IL (by omega))
   ·subst h
    (repeat' ((first|(apply AG<;>intro hc<;>try (exfalso;omega))|(apply BM;omega)|(refine BC (by assumption) ?_ rfl ?_;omega)|apply AE)<;>conv=>whnf))
    refine BL [] (by (conv=>whnf);exact ⟨rfl,rfl,rfl⟩) (ih n (by omega) ⟨by omega,?_⟩);obtain ⟨i1,e1⟩:=zS hx;obtain ⟨i2,e2⟩:=zS hy;rw[List.drop_eq_getElem_cons i1,List.drop_eq_getElem_cons i2,p2,e1,e2]
   ·have:=ZH d2 d1 hlen.symm hy hx p2.symm h
    (repeat' ((first|(apply AG<;>intro hc<;>try (exfalso;omega))|(refine BC (by assumption) ?_ rfl ?_;omega)|apply AE)<;>conv=>whnf))
    exact CP (OS (by omega))
 ·rcases Nat.lt_trichotomy (dg (val a)).length (dg (val b)).length with h1|h1|h1
  ·have:=UD h1
   (repeat' ((first|(apply AG<;>intro hc<;>try (exfalso;omega))|apply AY|apply AE|refine AD (t1 _) ?_|refine AD (t2 _) ?_)<;>conv=>whnf))
   exact CP (IL (by omega))
  ·exact absurd h1 hlen
  ·have:=UD h1
   (repeat' ((first|(apply AG<;>intro hc<;>try (exfalso;omega))|apply AY|apply AE|refine AD (t1 _) ?_|refine AD (t2 _) ?_)<;>conv=>whnf))
   exact CP (OS (by omega))
theorem iB {y:List Nat} (i:Nat):val (y.take (i+1))=val (y.take i)+4294967296^i*y.getD i 0:=by
 rcases Nat.lt_or_ge i y.length with h|h
 ·rw[DX (zE h),GV (zE h)]
 ·rw[<-QP h,C7 h,C7 (by omega)];omega
theorem nN (N:c8 L) (a b:List Nat) (q1 q2:Bool) (hA:A2 a) (hB:A2 b) (la:a.length<=549755813888) (lb:b.length<=549755813888):Ev L 103 [.sl q1 (a.map AL),.sl q2 (b.map AL)] (.sl false ((dg (val a+val b)).map AL)):=by
 refine Ev.x N.NB rfl rfl ?_;(repeat' (apply AE<;>conv=>whnf))
 refine GR (λ i _ _=>a.length+b.length-i) (λ(i:Nat) (o:List Nat) (c:Nat)=>(i<=a.length\/i<=b.length)/\o.length=i/\A2 o/\c<=1/\val o+4294967296^i*c=val (a.take i)+val (b.take i)) (λ i o c=>[(7,.int .i64 i),(6,.int .u64 (c:Int)),(5,.row 5 0 1 0 o.length)]) (λ i o c=>[(5,5,.rw 1 (o.map AL))]) [] [] 0 [] 0 (by (conv=>whnf);exact ⟨rfl,rfl,rfl⟩) ⟨by omega,rfl,S9,by omega,by simp [val]⟩ ?_;intro i o c ⟨p1,p2,p3,p4,p5⟩ ih;by_cases hi:i<a.length\/i<b.length
 ·have g1:=iB (y:=a) i
  have g2:=iB (y:=b) i;have k1:=QO hA i;have k2:=QO hB i;have j9 : ∀ t,t=c+a.getD i 0+b.getD i 0->val (o++[t%4294967296])+4294967296^(i+1)*(t/4294967296)=val (a.take (i+1))+val (b.take (i+1)):=λ t ht=>by
   have h3:=PK (val o) (4294967296^i) t;rw[N9,p2,g1,g2,Nat.pow_succ];rw[h3,ht,Nat.mul_add,Nat.mul_add];omega
  by_cases h1:i<a.length
  ·obtain ⟨x,hx⟩ : ∃ x,a[i]? = some x:=⟨_,zE h1⟩
   have Ew:=hA.at hx;rw[GV hx]at j9;by_cases h2:i<b.length
   ·obtain ⟨y,hy⟩ : ∃ y,b[i]? = some y:=⟨_,zE h2⟩
    have Aa:=hB.at hy;rw[GV hy]at j9;(repeat' ((first|(apply AG<;>intro hc<;>try (exfalso;omega))|(apply GA;omega)|(apply B7;omega)|apply FW|apply AY|(refine BC (by assumption) ?_ rfl ?_;omega)|apply EF|apply AE)<;>conv=>whnf))
    refine FV (enc:=AL) (((c+x+y)%4294967296:Nat)) rfl rfl rfl (by omega) (by omega) ?_;(conv=>whnf)
    (repeat' ((first|(apply AR;omega)|apply FD)<;>conv=>whnf))
    refine BL [(5,46)] (by (conv=>whnf);exact ⟨rfl,rfl,rfl⟩) (ih (i+1) (o++[(c+x+y)%4294967296]) ((c+x+y)/4294967296) (by omega) ⟨by omega,by simp;omega,p3.append (HM (by omega)),by omega,?_⟩);exact j9 (c+x+y) (by omega)
   ·rw[<-QP (show b.length<=i by omega)]at j9
    (repeat' ((first|(apply AG<;>intro hc<;>try (exfalso;omega))|(apply GA;omega)|(apply B7;omega)|apply FW|apply AY|(refine BC (by assumption) ?_ rfl ?_;omega)|apply EF|apply AE)<;>conv=>whnf))
    refine FV (enc:=AL) (((c+x)%4294967296:Nat)) rfl rfl rfl (by omega) (by omega) ?_;(conv=>whnf)
    (repeat' ((first|(apply AR;omega)|apply FD)<;>conv=>whnf))
    refine BL [(5,46)] (by (conv=>whnf);exact ⟨rfl,rfl,rfl⟩) (ih (i+1) (o++[(c+x)%4294967296]) ((c+x)/4294967296) (by omega) ⟨by omega,by simp;omega,p3.append (HM (by omega)),by omega,?_⟩);exact j9 (c+x) (by omega)
  ·obtain ⟨y,hy⟩ : ∃ y,b[i]? = some y:=⟨_,zE (by omega)⟩
   have Aa:=hB.at hy;rw[GV hy,<-QP (show a.length<=i by omega)]at j9;(repeat' ((first|(apply AG<;>intro hc<;>try (exfalso;omega))|(apply GA;omega)|(apply B7;omega)|apply FW|apply AY|(refine BC (by assumption) ?_ rfl ?_;omega)|apply EF|apply AE)<;>conv=>whnf))
   refine FV (enc:=AL) (((c+y)%4294967296:Nat)) rfl rfl rfl (by omega) (by omega) ?_;(conv=>whnf)
   (repeat' ((first|(apply AR;omega)|apply FD)<;>conv=>whnf))
   refine BL [(5,46)] (by (conv=>whnf);exact ⟨rfl,rfl,rfl⟩) (ih (i+1) (o++[(c+y)%4294967296]) ((c+y)/4294967296) (by omega) ⟨by omega,by simp;omega,p3.append (HM (by omega)),by omega,?_⟩);exact j9 (c+y) (by omega)
 ·clear ih
  have hv:val (o++[c])=val a+val b:=by
   rw[C7 (by omega),C7 (by omega)]at p5;rw[N9,p2,p5]
  have hT:=λ q=>GL N (o++[c]) q (p3.append (HM (by omega))) (by simp;omega)
  rw[hv]at hT;(repeat' ((first|(apply AG<;>intro hc<;>try (exfalso;omega))|(apply D8;omega)|apply AY|apply EF|apply AE)<;>conv=>whnf))
  refine FV (enc:=AL) c rfl rfl rfl (by omega) (by omega) ?_;(conv=>whnf)
  (repeat' ((first|(refine C3 (λ_=>rfl) rfl ?_ ?_;(first|rfl|simp))|refine AD (hT _) ?_)<;>conv=>whnf))
  exact AW rfl (JP _)
theorem XD {a b:Nat} (h:b<=a):0<=C5 a b:=by unfold C5;split<;>(try split)<;>omega
theorem Aft {V Y X p d e bw have' take w z9:Nat} (h:V+Y=X+p*bw) (h1:take=bw+e) (h2:(have'=d/\z9=0/\take<=d)\/(have'=d+4294967296/\z9=1/\d<take)) (h3:w+take=have'):V+p*w+(Y+p*e)=X+p*d+p*4294967296*z9:=by
 have h4:w+bw+e=d+4294967296*z9:=by omega
 have h5:p*(w+bw+e)=p*(d+4294967296*z9):=by rw[h4]
 rw[Nat.mul_add,Nat.mul_add,Nat.mul_add,<-Nat.mul_assoc]at h5;omega
theorem sA (N:c8 L) (x y:List Nat) (hX:A2 x) (hY:A2 y) (lx:x.length<=549755813888) (ly:y.length<=549755813888) (hle:val y<=val x) :
  AA L [It.lp JJ.l1,It.c9 0,It.code (((BD.ops JJ.af false).dr [1,5,6,7,21,53,54] []).seq BD.ret)]
  [(7,AV.int IntKind.i64 0),(6,AV.int IntKind.u64 0),(5,AV.row 101021 0 1 0 x.length),(1,AV.sl false (List.map AL y))]
  [(101021,101021,A7.rw 1 (List.map AL x))]
  (QC JJ (AV.sl false (List.map AL (dg (val x-val y))))):=by
 refine GR (λ i _ _=>x.length-i) (λ(i:Nat) (o:List Nat) (bw:Nat)=>i<=x.length/\o.length=x.length/\A2 o/\bw<=1/\o.drop i=x.drop i/\val (o.take i)+val (y.take i)=val (x.take i)+4294967296^i*bw) (λ i o bw=>[(7,.int .i64 i),(6,.int .u64 (bw:Int))]) (λ i o bw=>[(101021,101021,.rw 1 (o.map AL))]) [] [] 0 x 0 (by (conv=>whnf);exact ⟨rfl,rfl,rfl⟩) ⟨by omega,rfl,hX,by omega,rfl,by simp [val]⟩ ?_;intro i o bw ⟨p1,p2,p3,p4,p5,p6⟩ ih;by_cases hi:i<x.length
 ·obtain ⟨d,hd⟩ : ∃ d,o[i]? = some d:=⟨_,zE (by omega)⟩
  have x6:=p3.at hd;have hxi:x[i]? = some d:=by
   have e1:(o.drop i)[0]? = (x.drop i)[0]? := by rw[p5]
   simpa [hd] using e1.symm
  have g1:=DX hxi;have g2:=iB (y:=y) i;have ge:=QO hY i;have j9 : ∀ have' take w z9,take=bw+y.getD i 0->((have'=d/\z9=0/\take<=d)\/(have'=d+4294967296/\z9=1/\d<take))->w+take=have'->val ((o.set i w).take (i+1))+val (y.take (i+1))=val (x.take (i+1))+4294967296^(i+1)*z9:=λ have' take w z9 a1 a2 a3=>by
   rw[F8 (by omega),g1,g2,Nat.pow_succ];exact Aft p6 a1 a2 a3
  have ln : ∀ w,(o.set i w).drop (i+1)=x.drop (i+1):=λ w=>by
   rw[List.drop_set_of_lt (by omega)];have e1:(o.drop i).drop 1=(x.drop i).drop 1:=by rw[p5]
   simpa using e1
  by_cases hy:i<y.length
  ·obtain ⟨e,he⟩ : ∃ e,y[i]? = some e:=⟨_,zE hy⟩
   have Hb:=hY.at he;rw[GV he]at j9;by_cases k6:d<bw+e
   ·have h3:=j9 (d+4294967296) (bw+e) (d+4294967296-(bw+e)) 1 (by omega) (Or.inr ⟨rfl,rfl,k6⟩) (by omega)
    (repeat' ((first|(apply AG<;>intro hc<;>try (exfalso;omega))|(apply A3;omega)|(apply GA;omega)|(apply I8;omega;omega)|(apply WT;omega)|(apply B7;omega)|(apply D8;omega)|apply AY|(refine BC (by assumption) ?_ rfl ?_;omega)|refine JO (by assumption) ?_|apply AE)<;>conv=>whnf))
    refine E7 (by omega) ?_;(conv=>whnf)
    (repeat' ((first|(apply AR;omega)|fail)<;>conv=>whnf))
    exact BL [] (by (conv=>whnf);exact ⟨rfl,rfl,rfl⟩) (ih (i+1) (o.set i (d+4294967296-(bw+e))) 1 (by omega) ⟨by omega,by simpa using p2,p3.set _ (by omega),by omega,ln _,h3⟩)
   ·have h3:=j9 d (bw+e) (d-(bw+e)) 0 (by omega) (Or.inl ⟨rfl,rfl,by omega⟩) (by omega)
    (repeat' ((first|(apply AG<;>intro hc<;>try (exfalso;omega))|(apply A3;omega)|(apply GA;omega)|(apply I8;omega;omega)|(apply B7;omega)|(apply D8;omega)|apply AY|(refine BC (by assumption) ?_ rfl ?_;omega)|refine JO (by assumption) ?_|apply AE)<;>conv=>whnf))
    refine E7 (by omega) ?_;(conv=>whnf)
    (repeat' ((first|(apply AR;omega)|fail)<;>conv=>whnf))
    exact BL [] (by (conv=>whnf);exact ⟨rfl,rfl,rfl⟩) (ih (i+1) (o.set i (d-(bw+e))) 0 (by omega) ⟨by omega,by simpa using p2,p3.set _ (by omega),by omega,ln _,h3⟩)
  ·rw[<-QP (show y.length<=i by omega)]at j9
   by_cases k6:d<bw
   ·have h3:=j9 (d+4294967296) (bw) (d+4294967296-(bw)) 1 (by omega) (Or.inr ⟨rfl,rfl,k6⟩) (by omega)
    (repeat' ((first|(apply AG<;>intro hc<;>try (exfalso;omega))|(apply A3;omega)|(apply I8;omega;omega)|(apply WT;omega)|(apply B7;omega)|(apply D8;omega)|apply AY|refine JO (by assumption) ?_|apply AE)<;>conv=>whnf))
    refine E7 (by omega) ?_;(conv=>whnf)
    (repeat' ((first|(apply AR;omega)|fail)<;>conv=>whnf))
    exact BL [] (by (conv=>whnf);exact ⟨rfl,rfl,rfl⟩) (ih (i+1) (o.set i (d+4294967296-(bw))) 1 (by omega) ⟨by omega,by simpa using p2,p3.set _ (by omega),by omega,ln _,h3⟩)
   ·have h3:=j9 d (bw) (d-(bw)) 0 (by omega) (Or.inl ⟨rfl,rfl,by omega⟩) (by omega)
    (repeat' ((first|(apply AG<;>intro hc<;>try (exfalso;omega))|(apply A3;omega)|(apply I8;omega;omega)|(apply B7;omega)|(apply D8;omega)|apply AY|refine JO (by assumption) ?_|apply AE)<;>conv=>whnf))
    refine E7 (by omega) ?_;(conv=>whnf)
    (repeat' ((first|(apply AR;omega)|fail)<;>conv=>whnf))
    exact BL [] (by (conv=>whnf);exact ⟨rfl,rfl,rfl⟩) (ih (i+1) (o.set i (d-(bw))) 0 (by omega) ⟨by omega,by simpa using p2,p3.set _ (by omega),by omega,ln _,h3⟩)
 ·obtain rfl:i=x.length:=by omega
  clear ih;rw[C7 (by omega),C7 (Nat.le_refl _)]at p6;have h1:=E0 p3;rw[p2]at h1;have h2:val (y.take x.length)<=val y:=by have:=SL y x.length;omega
  have ni:bw=0:=by
   rcases Nat.eq_zero_or_pos bw with h|h
   ·exact h
   ·have:bw=1:=by omega
    subst this;omega
  subst ni;have hve:val (y.take x.length)=val y:=by
   have h3:=SL y x.length;rcases Nat.eq_zero_or_pos (val (y.drop x.length)) with h|h
   ·rw[h]at h3;omega
   ·have h4:4294967296^x.length*1<=4294967296^x.length*val (y.drop x.length):=Nat.mul_le_mul_left _ h
    have h5:=E0 hX;omega
  have hv:val o=val x-val y:=by omega
  have hT:=λ q=>GL N o q p3 (by omega)
  rw[<-hv,<-p2];(repeat' ((first|(apply AG<;>intro hc<;>try (exfalso;omega))|(refine C3 (λ_=>rfl) rfl ?_ ?_;(first|rfl|simp))|apply AE|refine AD (hT _) ?_)<;>conv=>whnf))
  exact AW rfl (JP _)
theorem cH (N:c8 L) (a b:List Nat) (q1 q2:Bool) (hA:A2 a) (hB:A2 b) (la:a.length<=549755813888) (lb:b.length<=549755813888):Ev L 104 [.sl q1 (a.map AL),.sl q2 (b.map AL)] (.sl false ((dg (val a-val b)).map AL)):=by
 have k9:=λ q q'=>cG N a b q q' hA hB (by omega) (by omega)
 have t2:=λ q=>GL N b q hB (by omega)
 refine Ev.x N.JJ rfl rfl ?_;by_cases k6:val a<val b
 ·rw[<-IL (by omega)]at k9
  rw[show val a-val b=0 by omega,EY];(repeat' ((first|(apply AG<;>intro hc<;>try (exfalso;omega))|apply AE|refine AD (k9 _ _) ?_)<;>conv=>whnf))
  exact AW rfl (JP [])
 ·have jl:=XD (show val b<=val a by omega)
  generalize C5 (val a) (val b)=cm at *;have d2:=DT (val b);have v2:=BP (val b);have l2:=ES hB;rw[<-v2];rw[<-v2]at k6;generalize dg (val b)=y at *;have Ks : ∀ n,a.take n=dg (val a)->val (a.take n)=val a:=λ n h=>by rw[h,BP]
  (repeat' ((first|(apply AG<;>intro hc<;>try (exfalso;omega))|apply AE|refine AD (k9 _ _) ?_|refine AD (t2 _) ?_)<;>conv=>whnf))
  refine GS 1000 N.HV rfl rfl ?_;(repeat' ((first|apply AY|apply AE)<;>conv=>whnf))
  refine CK (λ n=>n) (λ(n:Nat)=>n<=a.length /\ ∀ i,n<=i->i<a.length->a[i]? = some 0) (λ n=>[(3,.int .i64 n)]) (λ_=>[]) [] [] a.length (by (conv=>whnf);exact ⟨rfl,rfl,rfl⟩) ⟨Nat.le_refl _,λ i h1 h2=>by omega⟩ ?_;intro n ⟨p1,p2⟩ ih;rcases n with _|n
  ·have hv:=Ks _ (GI hA p1 p2 (Or.inl rfl))
   clear ih;(repeat' ((first|(apply AG<;>intro hc<;>try (exfalso;omega))|apply AE)<;>conv=>whnf))
   refine QD (k:=0) (λ_=>rfl) (by omega) ?_;(conv=>whnf)
   refine P7 (enc:=AL) (λ_=>rfl) (by rw[List.length_take];omega) (by rw[List.length_take];omega) ?_;(conv=>whnf)
   refine ⟨rfl,_,rfl,?_⟩;(conv=>whnf)
   skip
   rw[<-hv];exact BL [] (by (conv=>whnf);exact ⟨rfl,rfl,rfl⟩) (sA N (a.take 0) y (hA.take _) d2 (by simp) (by omega) (by omega))
  ·have e1:((n+1:Nat):Int)-1=n:=by omega
   (repeat' ((first|(apply AG<;>intro hc<;>try (exfalso;omega))|(apply BM;omega)|(refine QB (by assumption) ?_ (λ e he hb => ?_);omega)|apply AE)<;>conv=>whnf))
   ·rw[e1]
    exact BO [] (ih n (by omega) ⟨by omega,λ i h1 h2=>by
     by_cases h:i=n
     ·subst h
      rw[e1,Int.toNat_natCast]at he;rw[he];congr 1;omega
     ·exact p2 i (by omega) h2⟩)
   ·rw[e1,Int.toNat_natCast]at he
    have hv:=Ks _ (GI hA p1 p2 (Or.inr ⟨_,he,by omega⟩));clear ih;refine QD (k:=n+1) (λ_=>rfl) (by omega) ?_;(conv=>whnf)
    refine P7 (enc:=AL) (λ_=>rfl) (by rw[List.length_take];omega) (by rw[List.length_take];omega) ?_;(conv=>whnf)
    refine ⟨rfl,_,rfl,?_⟩;(conv=>whnf)
    skip
    rw[<-hv];exact BL [] (by (conv=>whnf);exact ⟨rfl,rfl,rfl⟩) (sA N (a.take (n+1)) y (hA.take _) d2 (by rw[List.length_take];omega) (by omega) (by omega))
theorem Tb (N:c8 L) (x y:List Nat) (q1 q2:Bool) (hA:A2 x) (hB:A2 y) (Md:x.length+y.length<=549755813888):Ev L 105 [.sl q1 (x.map AL),.sl q2 (y.map AL)] (.sl false ((dg (val x*val y)).map AL)):=by
 refine Ev.x N.NF rfl rfl ?_;(repeat' ((first|(apply AR;omega)|apply AY|apply AE)<;>conv=>whnf))
 refine DP (enc:=AL) 0 (x.length+y.length+1) rfl (by omega) (by omega) ?_;(conv=>whnf)
 skip
 refine EX (λ i _=>x.length-i) (λ(i:Nat) (o:List Nat)=>i<=x.length/\o.length=x.length+y.length+1/\A2 o/\val o=val (x.take i)*val y /\ ∀ k,i+y.length<=k->k<o.length->o[k]? = some 0) (λ i o=>[(6,.int .i64 i)]) (λ i o=>[(15,15,.rw 1 (o.map AL))]) [] [] 0 (List.replicate (x.length+y.length+1) 0) (by (conv=>whnf);exact ⟨rfl,rfl,rfl⟩) ⟨by omega,by simp,JD _,by simp [val,ZL],λ k h1 h2=>by simp at h2;simp [h2]⟩ ?_;intro i O ⟨p1,p2,p3,p4,p5⟩ ih;by_cases hi:i<x.length
 ·obtain ⟨d,hd⟩ : ∃ d,x[i]? = some d:=⟨_,zE hi⟩
  have x6:=hA.at hd;(repeat' ((first|(apply AG<;>intro hc<;>try (exfalso;omega))|apply AY|apply AE)<;>conv=>whnf))
  refine GR (λ j _ _=>y.length-j) (λ(j:Nat) (o:List Nat) (c:Nat)=>j<=y.length/\o.length=x.length+y.length+1/\A2 o/\c<4294967296/\val o+4294967296^(i+j)*c=val O+4294967296^i*(d*val (y.take j)) /\ ∀ k,i+j<=k->o[k]? = O[k]?) (λ j o c=>[(7,.int .u64 (c:Int)),(8,.int .i64 j)]) (λ j o c=>[(15,15,.rw 1 (o.map AL))]) [] [] 0 O 0 (by (conv=>whnf);exact ⟨rfl,rfl,rfl⟩) ⟨by omega,p2,p3,by omega,by simp [val],λ_ _=>rfl⟩ ?_;intro j o c ⟨r1,r2,r3,r4,r5,r6⟩ jh;have e1:((i:Int)+j).toNat=i+j:=by omega
  by_cases hj:j<y.length
  ·obtain ⟨w,hw⟩ : ∃ w,y[j]? = some w:=⟨_,zE hj⟩
   have Ix:=hB.at hw;have hm:=TR x6 Ix;(repeat' ((first|(apply AG<;>intro hc<;>try (exfalso;omega))|(apply A3;omega)|(apply AR;omega)|(apply GA;omega)|(apply PD;omega)|(apply B7;omega)|apply FW|apply AY|(refine BC (by assumption) ?_ rfl ?_;omega)|(refine iM (by assumption) ?_ (λ v hv hb => ?_);omega)|apply AE)<;>conv=>whnf))
   refine W2 (i+j) (by omega) (by omega) ?_;(conv=>whnf)
   (repeat' ((first|(apply AR;omega)|apply FD)<;>conv=>whnf))
   refine BL [] (by (conv=>whnf);exact ⟨rfl,rfl,rfl⟩) (jh (j+1) _ _ (by omega) ⟨by omega,by simpa using r2,r3.set _ (by omega),by omega,?_,?_⟩)
   ·have h1:=ZI (v:=(c+(d*w+v))%4294967296) hv
    have h2:=PK 0 (4294967296^(i+j)) (c+(d*w+v));rw[DX hw,show i+(j+1)=i+j+1 by omega,Nat.pow_succ (4294967296) (i+j)];have h3:4294967296^i*(d*(val (y.take j)+4294967296^j*w))=4294967296^i*(d*val (y.take j))+4294967296^(i+j)*(d*w):=by rw[Nat.pow_add];grind
    rw[h3];generalize 4294967296^(i+j)=P at *;rw[Nat.mul_add P c,Nat.mul_add P]at h2;omega
   ·intro k hk
    rw[List.getElem?_set_ne (by omega)];exact r6 k (by omega)
  ·obtain rfl:j=y.length:=by omega
   clear jh;have hz:=r6 (i+y.length) (by omega);rw[p5 (i+y.length) (by omega) (by omega)]at hz;(repeat' ((first|(apply AG<;>intro hc<;>try (exfalso;omega))|(apply A3;omega)|(apply AR;omega)|(apply D8;omega)|apply AY|apply AE)<;>conv=>whnf))
   refine W2 (i+y.length) (by omega) (by omega) ?_;(conv=>whnf)
   (repeat' ((first|(apply AR;omega)|fail)<;>conv=>whnf))
   refine BL [] (by (conv=>whnf);exact ⟨rfl,rfl,rfl⟩) (ih (i+1) _ (by omega) ⟨by omega,by simpa using r2,r3.set _ (by omega),?_,?_⟩)
   ·have h1:=ZI (v:=c) hz
    rw[Nat.mul_zero,Nat.add_zero]at h1;rw[h1,r5,p4,C7 (Nat.le_refl _),DX hd,Nat.add_mul,Nat.mul_assoc]
   ·intro k h1 h2
    rw[List.length_set]at h2;rw[List.getElem?_set_ne (by omega),r6 k (by omega)];exact p5 k (by omega) (by omega)
 ·obtain rfl:i=x.length:=by omega
  clear ih;rw[C7 (Nat.le_refl _)]at p4;have hT:=λ q=>GL N O q p3 (by omega)
  rw[p4]at hT;rw[<-p2];(repeat' ((first|(apply AG<;>intro hc<;>try (exfalso;omega))|apply AY|(refine C3 (λ_=>rfl) rfl ?_ ?_;(first|rfl|simp))|apply AE|refine AD (hT _) ?_)<;>conv=>whnf))
  exact AW rfl (JP _)
end Go.b7

namespace Go.b7
def zv (neg:Bool) (m:List Nat):Int:=bif neg then -(val m:Int) else (val m:Int)
abbrev rZ (q neg:Bool) (m:List Nat):List AV:=[.bool neg,.sl q (m.map AL)]
abbrev eZ (z:Int):List AV:=rZ false (decide (z<0)) (dg z.natAbs)
theorem EW (neg:Bool) (m:List Nat):(zv neg m).natAbs=val m:=by cases neg<;>simp [zv]
theorem G4 (z:Int):zv (decide (z<0)) (dg z.natAbs)=z:=by
 unfold zv;rw[BP];by_cases h:z<0
 ·simp [h];omega
 ·simp [h];omega
def Sm (n:Nat) (m:List Nat):Prop:=A2 m/\m.length<=n
theorem Sm.dg {n V:Nat} (h:V<4294967296^n):Sm n (dg V):=⟨DT V,OT.2 h⟩
theorem Sm.le {n n':Nat} {m:List Nat} (h:Sm n m) (hn:n<=n'):Sm n' m:=⟨h.1,by have:=h.2;omega⟩
theorem Sm.val {n:Nat} {m:List Nat} (h:Sm n m):val m<4294967296^n:=Nat.lt_of_lt_of_le (E0 h.1) (Nat.pow_le_pow_right (by omega) h.2)
theorem Sm.rq {n:Nat} {m:List Nat} (h:Sm n m):Sm n (Go.b7.dg (Go.b7.val m)):=Sm.dg h.val
theorem EK {z:Int} {b:Bool} {n:Nat} (h1:n=z.natAbs) (h2:b=decide (z<0)):AV.agg [.bool b,.sl false ((dg n).map AL)] = .agg (eZ z):=by rw[h1,h2]
theorem DI (z:Int):A4 (.agg (eZ z)):=by
 simp only[A4,CB,and_true,true_and];exact C0 _
theorem N3 {z:Int} (h:z<0):true=decide (z<0):=by simp [h]
theorem GO {z:Int} (h:0<=z):false=decide (z<0):=by simp;omega
theorem tC (n:Nat):Sm n []:=⟨S9,Nat.zero_le _⟩
theorem gD {n d:Nat} (hn:1<=n) (hd:d<4294967296):Sm n [d]:=⟨HM hd,hn⟩
theorem vJ (b:Bool):zv b []=0:=by cases b<;>rfl
theorem Sm.low {n V:Nat} {m:List Nat} (h:Sm n m) (hV:V<=Go.b7.val m):Sm n (Go.b7.dg V):=Sm.dg (Nat.lt_of_le_of_lt hV h.val)
theorem Sm.mul {n k:Nat} {a b:List Nat} (ha:Sm n a) (hb:Sm k b) {V:Nat} (hV:V=Go.b7.val a*Go.b7.val b):Sm (n+k) (Go.b7.dg V):=by
 refine Sm.dg ?_;rw[hV,Nat.pow_add];exact Nat.mul_lt_mul_of_le_of_lt (Nat.le_of_lt ha.val) hb.val (Nat.pow_pos (by omega))
theorem Sm.add {n:Nat} {a b:List Nat} (ha:Sm n a) (hb:Sm n b) {V:Nat} (hV:V<=Go.b7.val a+Go.b7.val b):Sm (n+1) (Go.b7.dg V):=by
 refine Sm.dg ?_;have h1:=ha.val;have h2:=hb.val;rw[Nat.pow_succ];omega
theorem IO (V:Nat):(dg V).length=0↔V=0:=by rw[List.length_eq_zero_iff,bG]
theorem G3 (m:List Nat):zv false m=(val m:Int):=rfl
theorem PB (m:List Nat):zv true m = -(val m:Int):=rfl
def q9 (z:Int):Int:=if z<0 then -1 else if 0<z then 1 else 0
theorem fZ {z:Int} (h:z<0) : -1=q9 z:=by unfold q9;rw[if_pos h]
theorem gA {z:Int} (h:0<z):1=q9 z:=by unfold q9;rw[if_neg (by omega),if_pos h]
theorem Y4 {z:Int} (h:z=0):0=q9 z:=by unfold q9;rw[if_neg (by omega),if_neg (by omega)]
theorem uY {n:Nat} (h:n<18446744073709551616):val [n%4294967296,n/4294967296]=n:=(by simp [val];omega)
end Go.b7

namespace Go.b7
open F
attribute [local irreducible] AA AF AM AC BT AQ A5 AZ BG A9 BS CN BH AU BI BR AB A1 AJ pw B1 BQ B9 CM CH BF BV BB B5
variable {L:Lib}
set_option maxHeartbeats 4000000
theorem Ol {d:Nat} (h0:d≠0) (hd:d<4294967296):dg d=[d]:=by
 rw[JC h0,Nat.div_eq_of_lt hd,EY,Nat.mod_eq_of_lt hd]
theorem Sz (N:c8 L) (d:Nat) (q:Bool) (h0:d≠0) (hd:d<4294967296):Ev L 106 [.sl q ([d].map AL)] (.int .i64 (n0 d:Int)):=by
 have hT:=λ q=>GL N [d] q (HM hd) (by simp)
 rw[show val [d]=d by simp [val],Ol h0 hd]at hT;have pz:[d].length=1:=rfl;have tc:[d][(([d].length:Int)-1).toNat]? = some d:=rfl;have hb:=W4 (k:=32) hd;refine Ev.x N.NC rfl rfl ?_;(repeat' ((first|(apply AG<;>intro hc<;>try (exfalso;omega))|(apply BM;omega)|(apply FY;omega)|apply AY|(refine BC (by assumption) ?_ rfl ?_;omega)|apply AE|refine AD (hT _) ?_)<;>conv=>whnf))
 refine EX (λ_ x=>x) (λ(n x:Nat)=>n+n0 x=n0 d/\x<=d) (λ n x=>[(3,.int .i64 n),(4,.int .u32 (x:Int))]) (λ_ _=>[]) [] [] 0 d (by (conv=>whnf);exact ⟨rfl,rfl,rfl⟩) ⟨by omega,Nat.le_refl _⟩ ?_;intro n x ⟨p1,p2⟩ ih;by_cases hx:x=0
 ·subst hx
  have:n0 0=0:=by unfold n0;simp
  (repeat' ((first|(apply AG<;>intro hc<;>try (exfalso;omega))|apply AE)<;>conv=>whnf))
  exact CP (by omega)
 ·have h1:n0 (x/2)+1=n0 x:=by
   by_cases h1:x=1
   ·subst h1;decide
   ·exact UR 1 (x:=x) (by omega)
  (repeat' ((first|(apply AG<;>intro hc<;>try (exfalso;omega))|(apply AR;omega)|apply xD|apply AE)<;>conv=>whnf))
  exact BO [] (ih (n+1) (x/2) (by omega) ⟨by omega,by omega⟩)
theorem uV {V P X lo s d p t:Nat} (h:V+P*p*lo=P*(X*2^s)) (ht:t=lo+d*2^s):V+P*p*(t%4294967296)+P*p*4294967296*(t/4294967296)=P*((X+p*d)*2^s):=by
 have h1:=PK V (P*p) t;rw[h1,ht];have:P*((X+p*d)*2^s)=P*(X*2^s)+P*p*(d*2^s):=by grind
 rw[this,<-h,Nat.mul_add];omega
theorem nP (N:c8 L) (l:List Nat) (q:Bool) (n:Nat) (hD:A2 l) (hl:l.length<=549755813888) (hn:n<=65536):Ev L 107 [.sl q (l.map AL),.int .i64 (n:Int)] (.sl false ((dg (val l*2^n)).map AL)):=by
 have hT:=λ q=>GL N l q hD (by omega)
 have d1:=DT (val l);have v1:=BP (val l);have l1:=ES hD;have hz:=IO (val l);refine Ev.x N.IZ rfl rfl ?_;by_cases h0:val l=0
 ·rw[h0,Nat.zero_mul,EY]
  (repeat' ((first|(apply AG<;>intro hc<;>try (exfalso;omega))|apply AY|apply AE|refine AD (hT _) ?_)<;>conv=>whnf))
  exact AW rfl (JP [])
 rw[<-v1];generalize dg (val l)=x at *;have ah:n%32<32:=Nat.mod_lt _ (by omega);have e1:(n:Int)/32=((n/32:Nat):Int):=by omega
 have e2:(n:Int)%32=((n%32:Nat):Int):=by omega
 (repeat' ((first|(apply AG<;>intro hc<;>try (exfalso;omega))|(refine KA ?_ ?_ (λ_ => ?_) (λ_ _ => ?_);omega;omega;all_goals try (exfalso;omega))|apply AY|apply AE|refine AD (hT _) ?_)<;>conv=>whnf))
 rw[e1];refine DP (enc:=AL) 0 (n/32) rfl rfl (by omega) ?_;(conv=>whnf)
 skip
 refine GR (λ i _ _=>x.length-i) (λ(i:Nat) (o:List Nat) (c:Nat)=>i<=x.length/\o.length=n/32+i/\A2 o/\c<2^(n%32)/\val o+4294967296^(n/32)*4294967296^i*c=4294967296^(n/32)*(val (x.take i)*2^(n%32))) (λ i o c=>[(10,.int .i64 i),(9,.int .u64 (c:Int)),(8,.row 107069 0 1 0 (n/32+i))]) (λ i o c=>[(107069,107069,.rw 1 (o.map AL))]) [] [] 0 (List.replicate (n/32) 0) 0 (by (conv=>whnf);exact ⟨rfl,rfl,rfl⟩) ⟨by omega,by simp,JD _,Nat.two_pow_pos _,by simp [val,ZL]⟩ ?_;intro i o c ⟨p1,p2,p3,p4,p5⟩ ih;have oa:=V0 (s:=n%32) (by omega);by_cases hi:i<x.length
 ·obtain ⟨d,hd⟩ : ∃ d,x[i]? = some d:=⟨_,zE hi⟩
  have x6:=d1.at hd;obtain ⟨f1,f2,f3,f4⟩:=SF (s:=n%32) x6 (by omega);have hr:=YE (show n%32<=64 by omega) f4;(repeat' ((first|(apply AG<;>intro hc<;>try (exfalso;omega))|(refine QA ?_ (λ_ _ _ => ?_) (λ_ _ _ _ => ?_);omega;all_goals try (exfalso;omega))|(apply B7;omega)|apply AY|(refine BC (by assumption) ?_ rfl ?_;omega)|apply AE)<;>conv=>whnf))
  rw[e2];refine PG (by omega) f4 ?_;(conv=>whnf)
  skip
  refine WU (n%32) (Nat.mul_mod_left _ _) p4 (by omega) ?_;(conv=>whnf)
  have j9:=uV (d:=d) p5 rfl;have pd:(c+d*2^(n%32))/4294967296<2^(n%32):=by
   rw[Nat.div_lt_iff_lt_mul (by omega)];have:=Nat.mul_le_mul_right (2^(n%32)) (show d<=4294967295 by omega)
   omega
  generalize c+d*2^(n%32)=t at *;(repeat' ((first|apply FW|apply EF)<;>conv=>whnf))
  refine FV (enc:=AL) (t%4294967296) rfl p2.symm rfl (by omega) (by omega) ?_;(conv=>whnf)
  (repeat' ((first|(apply AR;omega)|apply FD)<;>conv=>whnf))
  rw[show (o++[t%4294967296]).length=n/32+(i+1) by simp [p2];omega];refine BL [(107069,107091)] (by (conv=>whnf);exact ⟨rfl,rfl,rfl⟩) (ih (i+1) (o++[t%4294967296]) (t/4294967296) (by omega) ⟨by omega,by simp;omega,p3.append (HM (by omega)),pd,?_⟩);rw[N9,p2,DX hd,Nat.pow_add,Nat.pow_succ,<-Nat.mul_assoc];exact j9
 ·obtain rfl:i=x.length:=by omega
  clear ih;have ji:c<4294967296:=by omega
  have hOD:A2 (o++[c]):=p3.append (HM ji);have Au:val (o++[c])=val x*2^n:=by
   rw[N9,p2,Nat.pow_add,p5,C7 (Nat.le_refl _)];have e3:2^n=4294967296^(n/32)*2^(n%32):=by
    rw[show 4294967296=2^32 from rfl,<-Nat.pow_mul,<-Nat.pow_add];congr 1;omega
   rw[e3];grind
  have As:(o++[c]).length=n/32+x.length+1:=by simp [p2]
  (repeat' ((first|(apply AG<;>intro hc<;>try (exfalso;omega))|(apply D8;omega)|apply AY|apply EF|apply AE)<;>conv=>whnf))
  refine FV (enc:=AL) c rfl p2.symm rfl (by omega) (by omega) ?_;(conv=>whnf)
  rw[<-Au,As];generalize o++[c]=O at *;rw[<-As];clear p3 p4 p5 Au;refine GS 1000 N.HV rfl rfl ?_;(repeat' (apply AE<;>conv=>whnf))
  refine CK (λ n=>n) (λ(n:Nat)=>n<=(O).length /\ ∀ i,n<=i->i<(O).length->(O)[i]? = some 0) (λ n=>[(3,.int .i64 n)]) (λ_=>[]) [] [] (O).length (by (conv=>whnf);exact ⟨rfl,rfl,rfl⟩) ⟨Nat.le_refl _,λ i h1 h2=>by omega⟩ ?_;intro n ⟨p1,p2⟩ ih;rcases n with _|n
  ·(repeat' ((first|(apply AG<;>intro hc<;>try (exfalso;omega))|apply AE)<;>conv=>whnf))
   refine G5 0 (by omega) (by omega) ?_;(conv=>whnf)
   have ag:=GI (l:=O) (by assumption) p1 p2 (Or.inl rfl);have n6:(List.take 0 O).length<=(O).length:=by rw[List.length_take];omega
   clear ih p2;refine W0 (enc:=AL) (by omega) ?_;(conv=>whnf)
   rw[List.drop_zero,Nat.sub_zero];generalize yy:List.take 0 O=T0 at *;refine P7 (enc:=AL) (λ_=>rfl) (by omega) (by omega) ?_;(conv=>whnf)
   refine ⟨rfl,_,rfl,?_⟩;(conv=>whnf)
   (refine C3 (enc:=AL) (λ_=>rfl) rfl rfl ?_;(conv=>whnf);exact AW (by rw[<-ag]) (JP _))
  ·have e1:((n+1:Nat):Int)-1=n:=by omega
   (repeat' ((first|(apply AG<;>intro hc<;>try (exfalso;omega))|(apply A3;omega)|(apply BM;omega)|(refine Q9 (by assumption) ?_ (λ v hv hb => ?_);omega)|apply AE)<;>conv=>whnf))
   ·rw[e1]
    exact BO [] (ih n (by omega) ⟨by omega,λ i h1 h2=>by
     by_cases h:i=n
     ·subst h
      rw[e1,Int.toNat_natCast]at hv;rw[hv];congr 1;omega
     ·exact p2 i (by omega) h2⟩)
   ·refine G5 (n+1) (by omega) (by omega) ?_
    (conv=>whnf)
    rw[e1,Int.toNat_natCast]at hv;have ag:=GI (l:=O) (by assumption) p1 p2 (Or.inr ⟨_,hv,by omega⟩);have n6:(List.take (n+1) O).length<=(O).length:=by rw[List.length_take];omega
    clear ih p2 hv;(rw[jL (l:=O)];rotate_left;exact rfl;exact rfl);(conv=>whnf)
    refine W0 (enc:=AL) (by omega) ?_;(conv=>whnf)
    rw[List.drop_zero,Nat.sub_zero];generalize yy:List.take (n+1) O=T0 at *;refine P7 (enc:=AL) (λ_=>rfl) (by omega) (by omega) ?_;(conv=>whnf)
    refine ⟨rfl,_,rfl,?_⟩;(conv=>whnf)
    (refine C3 (enc:=AL) (λ_=>rfl) rfl rfl ?_;(conv=>whnf);exact AW (by rw[<-ag]) (JP _))
theorem Agu {l:List Nat} (hD:A2 l) (k:Nat) (hk:k<=l.length):val (l.drop k)=val l/4294967296^k:=by
 have h1:=J7 l k hk;have h2:=E0 (hD.take k);rw[List.length_take,Nat.min_eq_left hk]at h2;rw[h1,Nat.add_mul_div_left _ _ (Nat.pow_pos (by omega)),Nat.div_eq_of_lt h2,Nat.zero_add]
theorem Xk (n:Nat):2^n=4294967296^(n/32)*2^(n%32):=by
 rw[show 4294967296=2^32 from rfl,<-Nat.pow_mul,<-Nat.pow_add];congr 1;omega
theorem Qo {d e V r:Nat} (hd:d<4294967296) (hr:r<32):(d+e*4294967296)/2^r%4294967296+4294967296*((e+4294967296*V)/2^r)=(d+4294967296*(e+4294967296*V))/2^r:=by
 obtain ⟨f1,f2,f3⟩:=qF (V:=e) hd (show r<=32 by omega);rw[dS (d:=d) (V:=e+4294967296*V) (by omega),qG (d:=e) (V:=V) (by omega)];have h1:=dS (d:=d) (V:=e) (s:=r) (by omega);rw[show d+e*4294967296=d+4294967296*e by omega,h1];clear h1;generalize d/2^r=A at *;generalize e%2^r*2^(32-r)=Q at *;generalize e/2^r=Z at *;generalize 2^(32-r)=P at *;omega
theorem Tc (N:c8 L) (l:List Nat) (q:Bool) (n:Nat) (hD:A2 l) (hl:l.length<=549755813888) (hn:1<=n/\n<=65536):Ev L 107 [.sl q (l.map AL),.int .i64 (-(n:Int))] (.sl false ((dg (val l/2^n)).map AL)):=by
 have hT:=λ q=>GL N l q hD (by omega)
 have d1:=DT (val l);have v1:=BP (val l);have l1:=ES hD;have hz:=IO (val l);refine Ev.x N.IZ rfl rfl ?_;by_cases h0:val l=0
 ·rw[h0,Nat.zero_div,EY]
  (repeat' ((first|(apply AG<;>intro hc<;>try (exfalso;omega))|apply AY|apply AE|refine AD (hT _) ?_)<;>conv=>whnf))
  exact AW rfl (JP [])
 rw[<-v1];generalize dg (val l)=x at *;have Ia:n%32<32:=Nat.mod_lt _ (by omega);have e1:(- -(n:Int))/32=((n/32:Nat):Int):=by omega
 have e2:(- -(n:Int))%32=((n%32:Nat):Int):=by omega
 by_cases Ain:32*x.length<n
 ·have k6:val x/2^n=0:=by
   refine Nat.div_eq_of_lt (Nat.lt_of_lt_of_le (E0 d1) ?_);rw[show 4294967296=2^32 from rfl,<-Nat.pow_mul];exact Nat.pow_le_pow_right (by omega) (by omega)
  rw[k6,EY];(repeat' ((first|(apply AG<;>intro hc<;>try (exfalso;omega))|(apply FY;omega)|apply AY|apply AE|refine AD (hT _) ?_)<;>conv=>whnf))
  exact AW rfl (JP [])
 have hk:n/32<=x.length:=by omega
 have hvd:=Agu d1 _ hk;(repeat' ((first|(apply AG<;>intro hc<;>try (exfalso;omega))|(apply FY;omega)|(refine KA ?_ ?_ (λ_ => ?_) (λ_ _ => ?_);omega;omega;all_goals try (exfalso;omega))|(apply BT.neg;omega)|apply AY|apply AE|refine AD (hT _) ?_)<;>conv=>whnf))
 rw[e1];refine EX (λ i _=>x.length-i) (λ(i:Nat) (o:List Nat)=>n/32<=i/\i<=x.length/\o.length=i-n/32/\A2 o/\val o+4294967296^(i-n/32)*(val (x.drop i)/2^(n%32))=val (x.drop (n/32))/2^(n%32)) (λ i o=>[(6,.int .i64 i),(5,.row 107005 0 1 0 o.length)]) (λ i o=>[(107005,107005,.rw 1 (o.map AL))]) [] [] (n/32) [] (by (conv=>whnf);exact ⟨rfl,rfl,rfl⟩) ⟨Nat.le_refl _,hk,by simp,S9,by simp [val]⟩ ?_;intro i o ⟨p0,p1,p2,p3,p5⟩ ih;by_cases hi:i<x.length
 ·obtain ⟨d,hd⟩ : ∃ d,x[i]? = some d:=⟨_,zE hi⟩
  have x6:=d1.at hd;have g1:=HH hd;have g2:=SK x (i+1);have g3:=Qo (e:=x.getD (i+1) 0) (V:=val (x.drop (i+1+1))) x6 Ia;rw[<-g2,<-g1]at g3;have key : ∀ t,t=d+x.getD (i+1) 0*4294967296->val (o++[t/2^(n%32)%4294967296])+4294967296^(i+1-n/32)*(val (x.drop (i+1))/2^(n%32))=val (x.drop (n/32))/2^(n%32):=λ t ht=>by
   rw[N9,p2,show i+1-n/32=(i-n/32)+1 by omega,Nat.pow_succ,ht,Nat.add_assoc,Nat.mul_assoc,<-Nat.mul_add,g3];exact p5
  by_cases hy:i+1<x.length
  ·obtain ⟨e,he⟩ : ∃ e,x[i+1]? = some e:=⟨_,zE hy⟩
   have Hb:=d1.at he;have cr:x[((i:Int)+1).toNat]? = some e:=by rw[show ((i:Int)+1).toNat=i+1 by omega];exact he
   rw[GV he]at key;(repeat' ((first|(apply AG<;>intro hc<;>try (exfalso;omega))|(apply AR;omega)|(apply OK;omega)|(apply B7;omega)|apply AY|(refine BC (by assumption) ?_ rfl ?_;omega)|apply AE)<;>conv=>whnf))
   refine WU 32 (Nat.mul_mod_left _ _) (by omega) (by omega) ?_;(conv=>whnf)
   (repeat' ((first|(refine QA ?_ (λ_ _ _ => ?_) (λ_ _ _ _ => ?_);omega;all_goals try (exfalso;omega))|(apply B7;omega))<;>conv=>whnf))
   rw[e2];refine PF (n:=n%32) (by show n%32<=64;omega) ?_;(conv=>whnf)
   (repeat' ((first|apply FW|apply EF)<;>conv=>whnf))
   refine FV (enc:=AL) ((d+e*4294967296)/2^(n%32)%4294967296) rfl rfl rfl (by omega) (by omega) ?_;(conv=>whnf)
   (repeat' ((first|(apply AR;omega)|fail)<;>conv=>whnf))
   exact BO [(107005,107064)] (ih (i+1) (o++[(d+e*4294967296)/2^(n%32)%4294967296]) (by omega) ⟨by omega,by omega,by simp;omega,p3.append (HM (by omega)),key (d+e*4294967296) rfl⟩)
  ·rw[<-QP (show x.length<=i+1 by omega),Nat.zero_mul]at key
   (repeat' ((first|(apply AG<;>intro hc<;>try (exfalso;omega))|(apply AR;omega)|(refine QA ?_ (λ_ _ _ => ?_) (λ_ _ _ _ => ?_);omega;all_goals try (exfalso;omega))|(apply B7;omega)|apply AY|(refine BC (by assumption) ?_ rfl ?_;omega)|apply AE)<;>conv=>whnf))
   rw[e2];refine PF (n:=n%32) (by show n%32<=64;omega) ?_;(conv=>whnf)
   (repeat' ((first|apply FW|apply EF)<;>conv=>whnf))
   refine FV (enc:=AL) (d/2^(n%32)%4294967296) rfl rfl rfl (by omega) (by omega) ?_;(conv=>whnf)
   (repeat' ((first|(apply AR;omega)|fail)<;>conv=>whnf))
   exact BO [(107005,107064)] (ih (i+1) (o++[d/2^(n%32)%4294967296]) (by omega) ⟨by omega,by omega,by simp;omega,p3.append (HM (by omega)),key d rfl⟩)
 ·obtain rfl:i=x.length:=by omega
  clear ih;rw[List.drop_of_length_le (Nat.le_refl _),I7,Nat.zero_div,Nat.mul_zero,Nat.add_zero,hvd,Nat.div_div_eq_div_mul,<-Xk]at p5;have Dr:=λ q=>GL N o q p3 (by omega)
  rw[p5]at Dr;(repeat' ((first|(apply AG<;>intro hc<;>try (exfalso;omega))|apply AY|(refine C3 (λ_=>rfl) rfl ?_ ?_;(first|rfl|simp))|apply AE|refine AD (Dr _) ?_)<;>conv=>whnf))
  exact AW rfl (JP _)
end Go.b7
