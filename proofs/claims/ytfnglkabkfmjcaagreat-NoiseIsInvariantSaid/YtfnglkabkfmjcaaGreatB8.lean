/-
  Natural numbers (layer 1): sums, differences, products.
-/
import Derived.Test.YtfnglkabkfmjcaaGreatB7
import Derived.Test.YtfnglkabkfmjcaaGreatB4
set_option linter.unusedSimpArgs false
set_option linter.unusedVariables false
set_option linter.unnecessarySimpa false
namespace Go.e9
open F
attribute [local irreducible] AA AF AM AC CK AR AW BD A7 BW AQ BT CD DB BP A4 BO CE AB A8 AJ pw B4 BK CF CI CN CX CJ BS CM
variable {L:Lib}
set_option maxHeartbeats 1000000
theorem tV {y:List Nat} {i:Nat} (h:y.length<=i):val (y.take (i+1))=val (y.take i):=by
 rw[DG h,DG (by omega)]
theorem AlU (N:l9 L) (a b:List Nat) (q1 q2:Bool) (hA:A3 a) (hB:A3 b) (la:a.length<=1099511627775) (lb:b.length<=1099511627775):Ev L 68 [.sl q1 (a.map AL),.sl q2 (b.map AL)] (.sl false ((dg (val a+val b)).map AL)):=by
 have l1:=E2 hA;have l2:=E2 hB;have d1:=EA (val a);have d2:=EA (val b);have v1:=B5 (val a);have v2:=B5 (val b);refine Ev.x N.YJ rfl rfl ?_;(repeat' ((first|(apply AG<;>intro hc<;>try (exfalso;omega))|(apply AX;omega)|apply AU|apply AE|refine TS (XB N a _ hA (by omega)) ?_|refine TS (XB N b _ hB (by omega)) ?_)<;>conv=>whnf))
 ·generalize dg (val a)=y at *
  generalize dg (val b)=x at *;rw[<-v1,<-v2,Nat.add_comm (val y)];have hlen:y.length<=x.length:=by omega
  have Hb:x.length<=1099511627775:=by omega
  clear v1 v2 hA hB la lb;refine EK (enc:=AL) 0 (x.length+1) rfl (by omega) (by omega) ?_;(conv=>whnf)
  (repeat' (apply AU<;>conv=>whnf))
  refine GT (λ i _ _=>x.length-i) (λ(i:Nat) (o:List Nat) (c:Nat)=>i<=x.length/\o.length=x.length+1/\A3 o/\c<=1/\val (o.take i)+4294967296^i*c=val (x.take i)+val (y.take i)) (λ i o c=>[(8,.int .u64 (c:Int)),(29,.int .i64 i)]) (λ i o c=>[(26,26,.rw 1 (o.map AL))]) [] [] 0 (List.replicate (x.length+1) 0) 0 (by (conv=>whnf);exact ⟨rfl,rfl,rfl⟩) ⟨by omega,by simp,ON _,by omega,by simp [val]⟩ ?_;intro i o c ⟨p1,p2,p3,p4,p5⟩ ih;by_cases hi:i<x.length
  ·(repeat' ((first|(apply AG<;>intro hc<;>try (exfalso;omega))|(apply A0;omega)|(apply GH;omega)|(apply CP;omega)|apply F9|apply AU|(refine pJ (by assumption) ?_ (λ e he hb => ?_);omega)|apply AE)<;>conv=>whnf))
   ·rename_i d hd _
    refine FH (by omega) ?_;(conv=>whnf)
    (repeat' ((first|(apply AX;omega)|apply FN)<;>conv=>whnf))
    refine B3 [] (by (conv=>whnf);exact ⟨rfl,rfl,rfl⟩) (ih (i+1) _ _ (by omega) ⟨by omega,by simpa using p2,p3.set _ (by omega),by omega,?_⟩);have h1:=EC hd;have h2:=EC he;have h3:=cQ (val (o.take i)) (4294967296^i) (d+c+e);have h4:=GF (v:=(d+c+e)%4294967296) (show i<o.length by omega);rw[h4,h1,h2,Nat.pow_succ];generalize 4294967296^i=p at *;rw[h3,Nat.mul_add,Nat.mul_add];omega
   ·refine FH (by omega) ?_
    (conv=>whnf)
    (repeat' ((first|(apply AX;omega)|apply FN)<;>conv=>whnf))
    refine B3 [] (by (conv=>whnf);exact ⟨rfl,rfl,rfl⟩) (ih (i+1) _ _ (by omega) ⟨by omega,by simpa using p2,p3.set _ (by omega),by omega,?_⟩);have h1:=EC he;have h2:=tV (y:=y) (i:=i) (by omega);have h3:=cQ (val (o.take i)) (4294967296^i) (e+c);have h4:=GF (v:=(e+c)%4294967296) (show i<o.length by omega);rw[h4,h1,h2,Nat.pow_succ];generalize 4294967296^i=p at *;rw[h3,Nat.mul_add];omega
  ·obtain rfl:i=x.length:=by omega
   clear ih;(repeat' ((first|(apply AG<;>intro hc<;>try (exfalso;omega))|(apply A0;omega)|(apply EJ;omega)|apply AU|apply AE)<;>conv=>whnf))
   refine FH (by omega) ?_;(conv=>whnf)
   skip
   have hV:val (o.set x.length c)=val x+val y:=by
    have h4:=GF (v:=c) (show x.length<o.length by omega);rw[List.take_of_length_le (by simp;omega)]at h4;rw[h4,p5,DG (Nat.le_refl _),DG hlen]
   have hD:A3 (o.set x.length c):=p3.set _ (by omega);have hL:(o.set x.length c).length=x.length+1:=by simpa using p2
   clear p3 p4 p5 p2;generalize o.set x.length c=O at *;rw[<-hL];refine FY 1000 N.F6 rfl rfl ?_;(repeat' (apply AE<;>conv=>whnf))
   refine B6 (λ n=>n) (λ(n:Nat)=>n<=(O).length /\ ∀ i,n<=i->i<(O).length->(O)[i]? = some 0) (λ n=>[(3,.int .i64 n)]) (λ_=>[]) [] [] (O).length (by first|exact (by (conv=>whnf);exact ⟨rfl,rfl,rfl⟩)|(simp only[List.length_set,List.length_replicate];exact (by (conv=>whnf);exact ⟨rfl,rfl,rfl⟩))) ⟨Nat.le_refl _,λ i h1 h2=>by omega⟩ ?_;intro n ⟨p1,p2⟩ ih;rcases n with _|n
   ·(repeat' ((first|(apply AG<;>intro hc<;>try (exfalso;omega))|apply AE)<;>conv=>whnf))
    refine HU 0 (by omega) (by omega) ?_;(conv=>whnf)
    refine ⟨rfl,_,rfl,?_⟩;(conv=>whnf)
    have hm:=p1;have gf:=GO (l:=O) (by assumption) p1 p2 (Or.inl rfl);clear ih p1 p2;(refine IZ (enc:=AL) (λ_=>rfl) (by omega) ?_;(conv=>whnf);exact AY (by rw[<-hV,<-gf];rfl) (by simp only[A6,true_and];exact CS _))
   ·have e1:((n+1:Nat):Int)-1=n:=by omega
    (repeat' ((first|(apply AG<;>intro hc<;>try (exfalso;omega))|(apply A0;omega)|(apply CB;omega)|(refine fZ (by assumption) ?_ (λ v hv hb => ?_);omega)|apply AE)<;>conv=>whnf))
    ·rw[e1]
     exact BL [] (ih n (by omega) ⟨by omega,λ i h1 h2=>by
      by_cases h:i=n
      ·subst h
       rw[e1,Int.toNat_natCast]at hv;rw[hv];congr 1;omega
      ·exact p2 i (by omega) h2⟩)
    ·refine HU (n+1) (by omega) (by omega) ?_
     (conv=>whnf)
     refine ⟨rfl,_,rfl,?_⟩;(conv=>whnf)
     rw[e1,Int.toNat_natCast]at hv;have hm:=p1;have gf:=GO (l:=O) (by assumption) p1 p2 (Or.inr ⟨_,hv,by omega⟩);clear ih p1 p2 hv;(refine IZ (enc:=AL) (λ_=>rfl) (by omega) ?_;(conv=>whnf);exact AY (by rw[<-hV,<-gf];rfl) (by simp only[A6,true_and];exact CS _))
 ·generalize dg (val a)=x at *
  generalize dg (val b)=y at *;rw[<-v1,<-v2];have hlen:y.length<=x.length:=by omega
  have Hb:x.length<=1099511627775:=by omega
  clear v1 v2 hA hB la lb;refine EK (enc:=AL) 0 (x.length+1) rfl (by omega) (by omega) ?_;(conv=>whnf)
  (repeat' (apply AU<;>conv=>whnf))
  refine GT (λ i _ _=>x.length-i) (λ(i:Nat) (o:List Nat) (c:Nat)=>i<=x.length/\o.length=x.length+1/\A3 o/\c<=1/\val (o.take i)+4294967296^i*c=val (x.take i)+val (y.take i)) (λ i o c=>[(8,.int .u64 (c:Int)),(29,.int .i64 i)]) (λ i o c=>[(26,26,.rw 1 (o.map AL))]) [] [] 0 (List.replicate (x.length+1) 0) 0 (by (conv=>whnf);exact ⟨rfl,rfl,rfl⟩) ⟨by omega,by simp,ON _,by omega,by simp [val]⟩ ?_;intro i o c ⟨p1,p2,p3,p4,p5⟩ ih;by_cases hi:i<x.length
  ·(repeat' ((first|(apply AG<;>intro hc<;>try (exfalso;omega))|(apply A0;omega)|(apply GH;omega)|(apply CP;omega)|apply F9|apply AU|(refine pJ (by assumption) ?_ (λ e he hb => ?_);omega)|apply AE)<;>conv=>whnf))
   ·rename_i d hd _
    refine FH (by omega) ?_;(conv=>whnf)
    (repeat' ((first|(apply AX;omega)|apply FN)<;>conv=>whnf))
    refine B3 [] (by (conv=>whnf);exact ⟨rfl,rfl,rfl⟩) (ih (i+1) _ _ (by omega) ⟨by omega,by simpa using p2,p3.set _ (by omega),by omega,?_⟩);have h1:=EC hd;have h2:=EC he;have h3:=cQ (val (o.take i)) (4294967296^i) (d+c+e);have h4:=GF (v:=(d+c+e)%4294967296) (show i<o.length by omega);rw[h4,h1,h2,Nat.pow_succ];generalize 4294967296^i=p at *;rw[h3,Nat.mul_add,Nat.mul_add];omega
   ·refine FH (by omega) ?_
    (conv=>whnf)
    (repeat' ((first|(apply AX;omega)|apply FN)<;>conv=>whnf))
    refine B3 [] (by (conv=>whnf);exact ⟨rfl,rfl,rfl⟩) (ih (i+1) _ _ (by omega) ⟨by omega,by simpa using p2,p3.set _ (by omega),by omega,?_⟩);have h1:=EC he;have h2:=tV (y:=y) (i:=i) (by omega);have h3:=cQ (val (o.take i)) (4294967296^i) (e+c);have h4:=GF (v:=(e+c)%4294967296) (show i<o.length by omega);rw[h4,h1,h2,Nat.pow_succ];generalize 4294967296^i=p at *;rw[h3,Nat.mul_add];omega
  ·obtain rfl:i=x.length:=by omega
   clear ih;(repeat' ((first|(apply AG<;>intro hc<;>try (exfalso;omega))|(apply A0;omega)|(apply EJ;omega)|apply AU|apply AE)<;>conv=>whnf))
   refine FH (by omega) ?_;(conv=>whnf)
   skip
   have hV:val (o.set x.length c)=val x+val y:=by
    have h4:=GF (v:=c) (show x.length<o.length by omega);rw[List.take_of_length_le (by simp;omega)]at h4;rw[h4,p5,DG (Nat.le_refl _),DG hlen]
   have hD:A3 (o.set x.length c):=p3.set _ (by omega);have hL:(o.set x.length c).length=x.length+1:=by simpa using p2
   clear p3 p4 p5 p2;generalize o.set x.length c=O at *;rw[<-hL];refine FY 1000 N.F6 rfl rfl ?_;(repeat' (apply AE<;>conv=>whnf))
   refine B6 (λ n=>n) (λ(n:Nat)=>n<=(O).length /\ ∀ i,n<=i->i<(O).length->(O)[i]? = some 0) (λ n=>[(3,.int .i64 n)]) (λ_=>[]) [] [] (O).length (by first|exact (by (conv=>whnf);exact ⟨rfl,rfl,rfl⟩)|(simp only[List.length_set,List.length_replicate];exact (by (conv=>whnf);exact ⟨rfl,rfl,rfl⟩))) ⟨Nat.le_refl _,λ i h1 h2=>by omega⟩ ?_;intro n ⟨p1,p2⟩ ih;rcases n with _|n
   ·(repeat' ((first|(apply AG<;>intro hc<;>try (exfalso;omega))|apply AE)<;>conv=>whnf))
    refine HU 0 (by omega) (by omega) ?_;(conv=>whnf)
    refine ⟨rfl,_,rfl,?_⟩;(conv=>whnf)
    have hm:=p1;have gf:=GO (l:=O) (by assumption) p1 p2 (Or.inl rfl);clear ih p1 p2;(refine IZ (enc:=AL) (λ_=>rfl) (by omega) ?_;(conv=>whnf);exact AY (by rw[<-hV,<-gf];rfl) (by simp only[A6,true_and];exact CS _))
   ·have e1:((n+1:Nat):Int)-1=n:=by omega
    (repeat' ((first|(apply AG<;>intro hc<;>try (exfalso;omega))|(apply A0;omega)|(apply CB;omega)|(refine fZ (by assumption) ?_ (λ v hv hb => ?_);omega)|apply AE)<;>conv=>whnf))
    ·rw[e1]
     exact BL [] (ih n (by omega) ⟨by omega,λ i h1 h2=>by
      by_cases h:i=n
      ·subst h
       rw[e1,Int.toNat_natCast]at hv;rw[hv];congr 1;omega
      ·exact p2 i (by omega) h2⟩)
    ·refine HU (n+1) (by omega) (by omega) ?_
     (conv=>whnf)
     refine ⟨rfl,_,rfl,?_⟩;(conv=>whnf)
     rw[e1,Int.toNat_natCast]at hv;have hm:=p1;have gf:=GO (l:=O) (by assumption) p1 p2 (Or.inr ⟨_,hv,by omega⟩);clear ih p1 p2 hv;(refine IZ (enc:=AL) (λ_=>rfl) (by omega) ?_;(conv=>whnf);exact AY (by rw[<-hV,<-gf];rfl) (by simp only[A6,true_and];exact CS _))
theorem Ai9 {a b:Int} (h:DD a b<=0):a<=b:=by
 unfold DD at h;split at h
 ·omega
 ·split at h<;>omega
theorem Aja {a b:Int} (h:0<DD a b):b<a:=by
 unfold DD at h;split at h
 ·omega
 ·split at h<;>omega
theorem Xw (N:l9 L) (a b:List Nat) (q1 q2:Bool) (hA:A3 a) (hB:A3 b) (la:a.length<=1099511627776) (lb:b.length<=1099511627776):Ev L 69 [.sl q1 (a.map AL),.sl q2 (b.map AL)] (.sl false ((dg (val a-val b)).map AL)):=by
 have l1:=E2 hA;have l2:=E2 hB;have d1:=EA (val a);have d2:=EA (val b);have v1:=B5 (val a);have v2:=B5 (val b);refine Ev.x N.YN rfl rfl ?_;(repeat' ((first|(apply AG<;>intro hc<;>try (exfalso;omega))|apply AU|apply AE|refine AD (cX N a b _ _ hA hB la lb) ?_|refine TS (XB N a _ hA la) ?_|refine TS (XB N b _ hB lb) ?_)<;>conv=>whnf))
 ·have:=Ai9 hc
  refine AY ?_ (by simp only[A6,true_and];exact CS _);rw[show val a-val b=0 by omega,E8];rfl
 ·have v9:=Aja hc
  have Am:(dg (val b)).length<=(dg (val a)).length:=by
   rcases Nat.lt_or_ge (dg (val a)).length (dg (val b)).length with h|h
   ·have:=lC h;omega
   ·exact h
  have yy:val b<val a:=by omega
  clear v9 hc;generalize dg (val a)=x at *;generalize dg (val b)=y at *;rw[<-v1,<-v2]at yy ⊢;clear v1 v2 hA hB lb;refine EK (enc:=AL) 0 x.length rfl rfl (by omega) ?_;(conv=>whnf)
  (repeat' (apply AU<;>conv=>whnf))
  refine GT (λ i _ _=>x.length-i) (λ(i:Nat) (o:List Nat) (c:Nat)=>i<=x.length/\o.length=x.length/\A3 o/\c<=1/\val (o.take i)+val (y.take i)=val (x.take i)+4294967296^i*c) (λ i o c=>[(8,.int .u64 (c:Int)),(25,.int .i64 i)]) (λ i o c=>[(22,22,.rw 1 (o.map AL))]) [] [] 0 (List.replicate x.length 0) 0 (by (conv=>whnf);exact ⟨rfl,rfl,rfl⟩) ⟨by omega,by simp,ON _,by omega,by simp [val]⟩ ?_;intro i o c ⟨p1,p2,p3,p4,p5⟩ ih;by_cases hi:i<x.length
  ·(repeat' ((first|(apply AG<;>intro hc<;>try (exfalso;omega))|(apply A0;omega)|(apply pI;omega)|(apply CP;omega)|apply F9|apply AU|(refine pJ (by assumption) ?_ (λ e he hb => ?_);omega)|apply AE)<;>conv=>whnf))
   ·rename_i d hd gl
    obtain ⟨s1,s2⟩:=Aqi gl hb p4;refine FH (by omega) ?_;(conv=>whnf)
    (repeat' ((first|(apply AX;omega)|apply pH)<;>conv=>whnf))
    generalize ER (ER d c) e=t at *;refine B3 [] (by (conv=>whnf);exact ⟨rfl,rfl,rfl⟩) (ih (i+1) _ _ (by omega) ⟨by omega,by simpa using p2,p3.set _ (by omega),s2,?_⟩);rw[GF (by omega),EC hd,EC he,Nat.pow_succ];exact Agd p5 s1
   ·obtain ⟨s1,s2⟩:=Aqh hb p4
    refine FH (by omega) ?_;(conv=>whnf)
    (repeat' ((first|(apply AX;omega)|apply pH)<;>conv=>whnf))
    generalize ER e c=t at *;refine B3 [] (by (conv=>whnf);exact ⟨rfl,rfl,rfl⟩) (ih (i+1) _ _ (by omega) ⟨by omega,by simpa using p2,p3.set _ (by omega),s2,?_⟩);rw[GF (by omega),EC he,tV (by omega),Nat.pow_succ];rw[<-Nat.add_zero (t%4294967296)]at s1;have:=Agd (e:=0) p5 s1
    rw[Nat.mul_zero,Nat.add_zero]at this;exact this
  ·obtain rfl:i=x.length:=by omega
   clear ih;have gx:c=0:=by
    rw[DG (by omega),DG Am,DG (Nat.le_refl _)]at p5;have:=FA p3
    rw[p2]at this;rcases Nat.eq_zero_or_pos c with h|h
    ·exact h
    ·have:c=1:=by omega
     subst this;omega
   subst gx;have hV:val o=val x-val y:=by
    rw[DG (by omega),DG Am,DG (Nat.le_refl _)]at p5;omega
   clear p5 p4;rw[<-p2];(repeat' ((first|(apply AG<;>intro hc<;>try (exfalso;omega))|apply AE)<;>conv=>whnf))
   refine FY 1000 N.F6 rfl rfl ?_;(repeat' (apply AE<;>conv=>whnf))
   refine B6 (λ n=>n) (λ(n:Nat)=>n<=(o).length /\ ∀ i,n<=i->i<(o).length->(o)[i]? = some 0) (λ n=>[(3,.int .i64 n)]) (λ_=>[]) [] [] (o).length (by first|exact (by (conv=>whnf);exact ⟨rfl,rfl,rfl⟩)|(simp only[List.length_set,List.length_replicate];exact (by (conv=>whnf);exact ⟨rfl,rfl,rfl⟩))) ⟨Nat.le_refl _,λ i h1 h2=>by omega⟩ ?_;intro n ⟨p1,p2⟩ ih;rcases n with _|n
   ·(repeat' ((first|(apply AG<;>intro hc<;>try (exfalso;omega))|apply AE)<;>conv=>whnf))
    refine HU 0 (by omega) (by omega) ?_;(conv=>whnf)
    refine ⟨rfl,_,rfl,?_⟩;(conv=>whnf)
    have hm:=p1;have gf:=GO (l:=o) (by assumption) p1 p2 (Or.inl rfl);clear ih p1 p2;(refine IZ (enc:=AL) (λ_=>rfl) (by omega) ?_;(conv=>whnf);exact AY (by rw[<-hV,<-gf];rfl) (by simp only[A6,true_and];exact CS _))
   ·have e1:((n+1:Nat):Int)-1=n:=by omega
    (repeat' ((first|(apply AG<;>intro hc<;>try (exfalso;omega))|(apply A0;omega)|(apply CB;omega)|(refine fZ (by assumption) ?_ (λ v hv hb => ?_);omega)|apply AE)<;>conv=>whnf))
    ·rw[e1]
     exact BL [] (ih n (by omega) ⟨by omega,λ i h1 h2=>by
      by_cases h:i=n
      ·subst h
       rw[e1,Int.toNat_natCast]at hv;rw[hv];congr 1;omega
      ·exact p2 i (by omega) h2⟩)
    ·refine HU (n+1) (by omega) (by omega) ?_
     (conv=>whnf)
     refine ⟨rfl,_,rfl,?_⟩;(conv=>whnf)
     rw[e1,Int.toNat_natCast]at hv;have hm:=p1;have gf:=GO (l:=o) (by assumption) p1 p2 (Or.inr ⟨_,hv,by omega⟩);clear ih p1 p2 hv;(refine IZ (enc:=AL) (λ_=>rfl) (by omega) ?_;(conv=>whnf);exact AY (by rw[<-hV,<-gf];rfl) (by simp only[A6,true_and];exact CS _))
theorem wW (N:l9 L) (a b:List Nat) (q1 q2:Bool) (hA:A3 a) (hB:A3 b) (lab:a.length+b.length<=1099511627776):Ev L 70 [.sl q1 (a.map AL),.sl q2 (b.map AL)] (.sl false ((dg (val a*val b)).map AL)):=by
 have l1:=E2 hA;have l2:=E2 hB;have d1:=EA (val a);have d2:=EA (val b);have v1:=B5 (val a);have v2:=B5 (val b);refine Ev.x N.YM rfl rfl ?_;have hz : ∀ p:Prop,((dg (val a)).length:Int)=0\/((dg (val b)).length:Int)=0->AJ (.sl false []) (.sl false ((dg (val a*val b)).map AL)):=λ_ h=>by
  have:val a*val b=0:=by
   rcases h with h|h
   ·have:dg (val a)=[]:=List.eq_nil_of_length_eq_zero (by omega)
    rw[vT.1 this,Nat.zero_mul]
   ·have:dg (val b)=[]:=List.eq_nil_of_length_eq_zero (by omega)
    rw[vT.1 this,Nat.mul_zero]
  exact AY (by rw[this,E8];rfl) (by simp only[A6,true_and];exact CS _)
 (repeat' ((first|(apply AG<;>intro hc<;>try (exfalso;omega))|(apply AX;omega)|apply AU|apply AE|refine TS (XB N a _ hA (by omega)) ?_|refine TS (XB N b _ hB (by omega)) ?_)<;>conv=>whnf))
 ·exact hz True (Or.inl hc)
 ·exact hz True (Or.inr hc)
 ·clear hz
  generalize dg (val a)=x at *;generalize dg (val b)=y at *;rw[<-v1,<-v2];have ye:x.length+y.length<=1099511627776:=by omega
  clear v1 v2 hA hB lab l1 l2;refine EK (enc:=AL) 0 (x.length+y.length) rfl (by omega) (by omega) ?_;(conv=>whnf)
  (repeat' (apply AU<;>conv=>whnf))
  refine G8 (λ i _=>x.length-i) (λ(i:Nat) (o:List Nat)=>i<=x.length/\o.length=x.length+y.length/\A3 o/\val o=val (x.take i)*val y /\ ∀ k,i+y.length<=k->k<o.length->o[k]? = some 0) (λ i o=>[(34,.int .i64 i)]) (λ i o=>[(31,31,.rw 1 (o.map AL))]) [] [] 0 (List.replicate (x.length+y.length) 0) (by (conv=>whnf);exact ⟨rfl,rfl,rfl⟩) ⟨by omega,by simp,ON _,by simp [val,tX],λ k h1 h2=>by simp at h2;simp [h2]⟩ ?_;intro i O ⟨p1,p2,p3,p4,p5⟩ ih;by_cases hi:i<x.length
  ·obtain ⟨d,hd⟩ : ∃ d,x[i]? = some d:=⟨_,zE hi⟩
   have gl:=d1.at hd;(repeat' ((first|(apply AG<;>intro hc<;>try (exfalso;omega))|(apply AX;omega)|apply AU|(refine BH (by assumption) ?_ rfl ?_;omega)|apply AE)<;>conv=>whnf))
   ·refine B3 [] (by (conv=>whnf);exact ⟨rfl,rfl,rfl⟩) (ih (i+1) O (by omega) ⟨by omega,p2,p3,?_,λ k h1 h2=>p5 k (by omega) h2⟩)
    rw[EC hd,p4,show d=0 by omega,Nat.mul_zero,Nat.add_zero]
   ·refine GT (λ j _ _=>y.length-j) (λ(j:Nat) (o:List Nat) (c:Nat)=>j<=y.length/\o.length=x.length+y.length/\A3 o/\c<4294967296/\val o+4294967296^(i+j)*c=val O+4294967296^i*(d*val (y.take j)) /\ ∀ k,i+j<=k->o[k]? = O[k]?) (λ j o c=>[(10,.int .u64 (c:Int)),(43,.int .i64 j)]) (λ j o c=>[(31,31,.rw 1 (o.map AL))]) [] [] 0 O 0 (by (conv=>whnf);exact ⟨rfl,rfl,rfl⟩) ⟨by omega,p2,p3,by omega,by simp [val],λ_ _=>rfl⟩ ?_
    intro j o c ⟨r1,r2,r3,r4,r5,r6⟩ jh;have e1:((i:Int)+j).toNat=i+j:=by omega
    by_cases hj:j<y.length
    ·obtain ⟨w,hw⟩ : ∃ w,y[j]? = some w:=⟨_,zE hj⟩
     have Ar:=d2.at hw;have hm:=kF gl Ar;(repeat' ((first|(apply AG<;>intro hc<;>try (exfalso;omega))|(apply A0;omega)|(apply AX;omega)|(apply GH;omega)|(apply cK;omega)|(apply CP;omega)|apply F9|(refine BH (by assumption) ?_ rfl ?_;omega)|(refine Xb (by assumption) ?_ (λ v hv hb => ?_);omega)|apply AE)<;>conv=>whnf))
     refine pM (i+j) (by omega) (by omega) ?_;(conv=>whnf)
     (repeat' ((first|(apply AX;omega)|apply FN)<;>conv=>whnf))
     refine B3 [] (by (conv=>whnf);exact ⟨rfl,rfl,rfl⟩) (jh (j+1) _ _ (by omega) ⟨by omega,by simpa using r2,r3.set _ (by omega),by omega,?_,?_⟩)
     ·have h1:=tU (v:=(d*w+v+c)%4294967296) hv
      have h2:=cQ 0 (4294967296^(i+j)) (d*w+v+c);rw[EC hw,show i+(j+1)=i+j+1 by omega,Nat.pow_succ (4294967296) (i+j)];have h3:4294967296^i*(d*(val (y.take j)+4294967296^j*w))=4294967296^i*(d*val (y.take j))+4294967296^(i+j)*(d*w):=by rw[Nat.pow_add];grind
      rw[h3];generalize 4294967296^(i+j)=P at *;rw[Nat.mul_add P,Nat.mul_add P]at h2;omega
     ·intro k hk
      rw[List.getElem?_set_ne (by omega)];exact r6 k (by omega)
    ·obtain rfl:j=y.length:=by omega
     clear jh;(repeat' ((first|(apply AG<;>intro hc<;>try (exfalso;omega))|(apply A0;omega)|(apply AX;omega)|(apply EJ;omega)|apply AU|apply AE)<;>conv=>whnf))
     have hz:=r6 (i+y.length) (by omega);rw[p5 (i+y.length) (by omega) (by omega)]at hz;refine pM (i+y.length) (by omega) (by omega) ?_;(conv=>whnf)
     (repeat' ((first|(apply AX;omega)|fail)<;>conv=>whnf))
     refine B3 [] (by (conv=>whnf);exact ⟨rfl,rfl,rfl⟩) (ih (i+1) _ (by omega) ⟨by omega,by simpa using r2,r3.set _ (by omega),?_,?_⟩)
     ·have h1:=tU (v:=c) hz
      rw[Nat.mul_zero,Nat.add_zero]at h1;rw[h1,r5,p4,DG (Nat.le_refl _),EC hd,Nat.add_mul,Nat.mul_assoc]
     ·intro k h1 h2
      rw[List.length_set]at h2;rw[List.getElem?_set_ne (by omega),r6 k (by omega)];exact p5 k (by omega) (by omega)
  ·obtain rfl:i=x.length:=by omega
   clear ih;rw[DG (Nat.le_refl _)]at p4;rw[<-p4,<-p2];(repeat' ((first|(apply AG<;>intro hc<;>try (exfalso;omega))|apply AE)<;>conv=>whnf))
   clear p5;refine FY 1000 N.F6 rfl rfl ?_;(repeat' (apply AE<;>conv=>whnf))
   refine B6 (λ n=>n) (λ(n:Nat)=>n<=(O).length /\ ∀ i,n<=i->i<(O).length->(O)[i]? = some 0) (λ n=>[(3,.int .i64 n)]) (λ_=>[]) [] [] (O).length (by first|exact (by (conv=>whnf);exact ⟨rfl,rfl,rfl⟩)|(simp only[List.length_set,List.length_replicate];exact (by (conv=>whnf);exact ⟨rfl,rfl,rfl⟩))) ⟨Nat.le_refl _,λ i h1 h2=>by omega⟩ ?_;intro n ⟨p1,p2⟩ ih;rcases n with _|n
   ·(repeat' ((first|(apply AG<;>intro hc<;>try (exfalso;omega))|apply AE)<;>conv=>whnf))
    refine HU 0 (by omega) (by omega) ?_;(conv=>whnf)
    refine ⟨rfl,_,rfl,?_⟩;(conv=>whnf)
    have hm:=p1;have gf:=GO (l:=O) (by assumption) p1 p2 (Or.inl rfl);clear ih p1 p2;(refine IZ (enc:=AL) (λ_=>rfl) (by omega) ?_;(conv=>whnf);exact AY (by rw[<-gf];rfl) (by simp only[A6,true_and];exact CS _))
   ·have e1:((n+1:Nat):Int)-1=n:=by omega
    (repeat' ((first|(apply AG<;>intro hc<;>try (exfalso;omega))|(apply A0;omega)|(apply CB;omega)|(refine fZ (by assumption) ?_ (λ v hv hb => ?_);omega)|apply AE)<;>conv=>whnf))
    ·rw[e1]
     exact BL [] (ih n (by omega) ⟨by omega,λ i h1 h2=>by
      by_cases h:i=n
      ·subst h
       rw[e1,Int.toNat_natCast]at hv;rw[hv];congr 1;omega
      ·exact p2 i (by omega) h2⟩)
    ·refine HU (n+1) (by omega) (by omega) ?_
     (conv=>whnf)
     refine ⟨rfl,_,rfl,?_⟩;(conv=>whnf)
     rw[e1,Int.toNat_natCast]at hv;have hm:=p1;have gf:=GO (l:=O) (by assumption) p1 p2 (Or.inr ⟨_,hv,by omega⟩);clear ih p1 p2 hv;(refine IZ (enc:=AL) (λ_=>rfl) (by omega) ?_;(conv=>whnf);exact AY (by rw[<-gf];rfl) (by simp only[A6,true_and];exact CS _))
end Go.e9
namespace Go.e9
@[irreducible] def dL (d s : Nat) : Nat := d * 2 ^ s % 4294967296
@[irreducible] def iL (d s : Nat) : Nat := d * 2 ^ s / 4294967296
theorem Oq (d s:Nat):dL d s=d*2^s%4294967296:=by unfold dL;rfl
theorem iM (d s:Nat):iL d s=d*2^s/4294967296:=by unfold iL;rfl
theorem fP {s:Nat} (hs:s<=32):4294967296=2^s*2^(32-s):=by
 rw[<-Nat.pow_add,show s+(32-s)=32 by omega]
theorem ApQ (d s:Nat):dL d s+4294967296*iL d s=d*2^s:=by
 rw[Oq,iM];exact Nat.mod_add_div _ _
theorem AfL {d s:Nat} (hs:s<=32):dL d s=2^s*(d%2^(32-s)):=by
 rw[Oq,fP hs,Nat.mul_comm d,Nat.mul_mod_mul_left]
theorem AfK {d s:Nat} (hs:s<=32):iL d s=d/2^(32-s):=by
 rw[iM,fP hs,Nat.mul_comm d,Nat.mul_div_mul_left _ _ (Nat.two_pow_pos s)]
theorem iN {d s:Nat} (hd:d<4294967296) (hs:s<=32):dL d s%2^s=0/\iL d s<2^s/\dL d s+2^s<=4294967296/\d*2^s<=18446744073709551615:=by
 refine ⟨by rw[AfL hs,Nat.mul_mod_right],?_,?_,?_⟩
 ·rw[AfK hs,Nat.div_lt_iff_lt_mul (Nat.two_pow_pos _),<-Nat.pow_add,show s+(32-s)=32 by omega];exact hd
 ·rw[AfL hs]
  have h1:d%2^(32-s)+1<=2^(32-s):=Nat.mod_lt _ (Nat.two_pow_pos _);have h2:=Nat.mul_le_mul_left (2^s) h1;rw[Nat.mul_add,Nat.mul_one,<-fP hs]at h2;exact h2
 ·have h1:2^s<=2^32:=Nat.pow_le_pow_right (by omega) hs
  have h2:d*2^s<=4294967295*4294967296:=Nat.mul_le_mul (by omega) h1;omega
theorem nR {s:Nat} (hs:s<=32):2^s<=4294967296:=(Nat.pow_le_pow_right (by omega) hs:2^s<=2^32)
theorem Aer {V X p lo s d:Nat} (h:V+p*lo=X*2^s):V+p*(dL d s+lo)+p*4294967296*iL d s=(X+p*d)*2^s:=by
 have h1:=ApQ d s;have h2:p*(dL d s+lo)+p*4294967296*iL d s=p*lo+p*(d*2^s):=by
  rw[<-h1];grind
 rw[Nat.add_mul,<-h,Nat.mul_assoc p d];omega
theorem yZ {d V s:Nat} (hs:s<=32):(d+4294967296*V)/2^s=d/2^s+V%2^s*2^(32-s)+4294967296*(V/2^s):=by
 have e:4294967296*V=2^s*(2^(32-s)*V):=by rw[<-Nat.mul_assoc,<-fP hs]
 rw[e,Nat.add_mul_div_left _ _ (Nat.two_pow_pos s)];have h:=Nat.mod_add_div V (2^s);have h2:2^(32-s)*V=V%2^s*2^(32-s)+4294967296*(V/2^s):=by
  have h3:2^(32-s)*V=2^(32-s)*(V%2^s+2^s*(V/2^s)):=by rw[h]
  rw[h3,fP hs];grind
 omega
theorem Aex {d V s:Nat} (hs:s<=32):(d+4294967296*V)%2^s=d%2^s:=by
 have e:4294967296*V=2^s*(2^(32-s)*V):=by rw[<-Nat.mul_assoc,<-fP hs]
 rw[e,Nat.add_mul_mod_self_left]
theorem Aog {d s:Nat} (hs:s<=32):d*2^(32-s)%4294967296=d%2^s*2^(32-s):=by
 have e:4294967296=2^s*2^(32-s):=fP hs;rw[e,Nat.mul_mod_mul_right]
theorem Aew {d V s:Nat} (hd:d<4294967296) (hs:s<=32):d/2^s<2^(32-s)/\V%2^s*2^(32-s)%2^(32-s)=0/\V%2^s*2^(32-s)+2^(32-s)<=4294967296:=by
 refine ⟨?_,Nat.mul_mod_left _ _,?_⟩
 ·rw[Nat.div_lt_iff_lt_mul (Nat.two_pow_pos _),<-Nat.pow_add,show 32-s+s=32 by omega];exact hd
 ·have h1:V%2^s+1<=2^s:=Nat.mod_lt _ (Nat.two_pow_pos _)
  have h2:=Nat.mul_le_mul_right (2^(32-s)) h1;rw[Nat.add_mul,Nat.one_mul,<-fP hs]at h2;exact h2
def aw (x:Nat):Nat:=if x=0 then 0 else x.log2+1
theorem Vw {x:Nat} (h:x≠0):2^(aw x-1)<=x/\x<2^aw x/\1<=aw x:=by
 unfold aw;rw[if_neg h];exact ⟨Nat.log2_self_le h,Nat.lt_log2_self,by omega⟩
theorem pW {x k:Nat} (h:x<2^k):aw x<=k:=by
 by_cases h0:x=0
 ·subst h0;unfold aw;simp
 ·obtain ⟨h1,_,h3⟩:=Vw h0
  have h2:2^(aw x-1)<2^k:=by omega
  have:=(Nat.pow_lt_pow_iff_right (by omega)).1 h2
  omega
theorem lR {x:Nat} (n:Nat) (h:2^n<=x):aw (x/2^n)+n=aw x:=by
 have hp:=Nat.two_pow_pos n;have hx:x≠0:=by omega
 have hq:x/2^n≠0:=by have:=Nat.div_pos h hp;omega
 unfold aw;rw[if_neg hx,if_neg hq];have:(x/2^n).log2+n=x.log2:=by
  symm
  rw[Nat.log2_eq_iff hx];have h1:=Nat.log2_self_le hq;have h2:x/2^n<2^((x/2^n).log2+1):=Nat.lt_log2_self;rw[Nat.le_div_iff_mul_le hp,<-Nat.pow_add]at h1;rw[Nat.div_lt_iff_lt_mul hp,<-Nat.pow_add]at h2;exact ⟨h1,by rw[show (x/2^n).log2+n+1=(x/2^n).log2+1+n by omega];exact h2⟩
 omega
theorem zA {x:Nat} (h0:x≠0) (hx:x<4294967296):aw x<=32/\1<=aw x/\2147483648<=x*2^(32-aw x)/\x*2^(32-aw x)<4294967296:=by
 obtain ⟨h1,h2,h3⟩:=Vw h0;have hk:aw x<=32:=pW (k:=32) hx;refine ⟨hk,h3,?_,?_⟩
 ·have:=Nat.mul_le_mul_right (2^(32-aw x)) h1
  rw[<-Nat.pow_add,show aw x-1+(32-aw x)=31 by omega]at this;exact this
 ·have:=Nat.mul_lt_mul_of_pos_right h2 (Nat.two_pow_pos (32-aw x))
  rw[<-Nat.pow_add,show aw x+(32-aw x)=32 by omega]at this;exact this
end Go.e9

namespace Go.e9
open F
section
variable {K:AV->Prop} {a b s:Nat} {k':IntKind}
theorem Xg (hs:s<=32) (hk:K (.int .u32 ((dL a s:Nat):Int))):AC .shl .u32 (a:Int) k' (s:Int) K:=by
 refine uG (show s<=IntKind.u32.bits from hs) ?_;rw[wrap_u32,<-Oq];exact hk
theorem cN (hs:s<=64) (h:a*2^s<=18446744073709551615) (hk:K (.int .u64 ((a*2^s:Nat):Int))):AC .shl .u64 (a:Int) k' (s:Int) K:=by
 refine uG (show s<=IntKind.u64.bits from hs) ?_;rw[IntWalk.u64_in _ (by omega)];exact hk
theorem uH (n:Nat) (hx:a%2^n=0) (hy:b<2^n) (h:a+b<=4294967295) (hk:K (.int .u32 ((a+b:Nat):Int))):AC .or .u32 (a:Int) .u32 (b:Int) K :=
 uF n hx hy (show a+b<4294967296 by omega) (IntWalk.u32_in _ (by omega)) hk
theorem Aht (n:Nat) (hx:b%2^n=0) (hy:a<2^n) (h:a+b<=4294967295) (hk:K (.int .u32 ((a+b:Nat):Int))):AC .or .u32 (a:Int) .u32 (b:Int) K:=by
 have e:DW .or .u32 (a:Int) .u32 (b:Int)=DW .or .u32 (b:Int) .u32 (a:Int):=by
  simp only[DW,if_true,BitVec.or_comm]
 rw[Nat.add_comm]at hk h;obtain ⟨v,h1,h2⟩:=uH (K:=K) n hx hy h hk;exact ⟨v,by rw[e];exact h1,h2⟩
theorem Ahw (hs:s<=32) (hk:K (.int .u32 ((a/2^s:Nat):Int))):AC .shr .u32 (a:Int) k' (s:Int) K:=cM (show s<=IntKind.u32.bits from hs) hk
end
attribute [local irreducible] AA AF AM AC CK AR AW BD A7 BW AQ BT CD DB BP A4 BO CE AB A8 AJ pw B4 BK CF CI CN CX CJ BS CM
set_option maxHeartbeats 1000000
variable {L:Lib}
def uE (a:List Nat) (s:Nat) (o:List Nat):Prop:=A3 o/\(a.length<=o.length/\o.length<=a.length+1)/\(val a*2^s<4294967296^o.length->val o=val a*2^s)
theorem Aoa {a o:List Nat} {s lo:Nat} (hD:A3 o) (hl:o.length=a.length) (h:val (o.take a.length)+4294967296^a.length*lo=val (a.take a.length)*2^s):uE a s o:=by
 refine ⟨hD,by omega,λ v9 => ?_⟩;rw[DG (by omega),DG (Nat.le_refl _)]at h;rw[hl]at v9;have:lo=0:=by
  rcases Nat.eq_zero_or_pos lo with h0|h0
  ·exact h0
  ·have:4294967296^a.length*1<=4294967296^a.length*lo:=Nat.mul_le_mul_left _ h0
   omega
 subst this;omega
theorem Aeq {a o:List Nat} {s lo:Nat} (hD:A3 o) (sj:lo<4294967296) (hl:o.length=a.length+1) (h:val (o.take a.length)+4294967296^a.length*lo=val (a.take a.length)*2^s):uE a s (o.set a.length lo):=by
 refine ⟨hD.set _ sj,by simp;omega,λ_ => ?_⟩;have h1:=GF (v:=lo) (show a.length<o.length by omega);rw[DG (by simp;omega),h,DG (Nat.le_refl _)]at h1;exact h1
theorem AlY (N:l9 L) (a:List Nat) (q:Bool) (s n:Nat) (hA:A3 a) (hs:s<=31) (hn:a.length<=n/\n<=a.length+1) (la:a.length<=1099511627776) : ∃ r,Ev L 71 [.sl q (a.map AL),.int .u64 (s:Int),.int .i64 (n:Int)] r /\ ∃ o,uE a s o/\o.length=n/\r = .sl false (o.map AL):=by
 refine Ev.xE N.QF rfl rfl ?_;(repeat' (apply AE<;>conv=>whnf))
 refine EK (enc:=AL) 0 n rfl rfl (by omega) ?_;(conv=>whnf)
 (repeat' (apply AU<;>conv=>whnf))
 refine GT (λ i _ _=>a.length-i) (λ(i:Nat) (o:List Nat) (lo:Nat)=>i<=a.length/\o.length=n/\A3 o/\lo<2^s/\val (o.take i)+4294967296^i*lo=val (a.take i)*2^s) (λ i o lo=>[(8,.int .u32 (lo:Int)),(15,.int .i64 i)]) (λ i o lo=>[(71012,71012,.rw 1 (o.map AL))]) [] [] 0 (List.replicate n 0) 0 (by (conv=>whnf);exact ⟨rfl,rfl,rfl⟩) ⟨by omega,by simp,ON _,Nat.two_pow_pos s,by simp [val]⟩ ?_;intro i o lo ⟨p1,p2,p3,p4,p5⟩ ih;have yb:=nR (s:=s) (by omega);by_cases hi:i<a.length
 ·obtain ⟨d,hd⟩ : ∃ d,a[i]? = some d:=⟨_,zE hi⟩
  have gl:=hA.at hd;obtain ⟨f1,f2,f3,f4⟩:=iN (s:=s) gl (by omega);(repeat' ((first|(apply AG<;>intro hc<;>try (exfalso;omega))|(refine BH (by assumption) ?_ rfl ?_;omega)|apply AE)<;>conv=>whnf))
  refine Xg (by omega) ?_;(conv=>whnf)
  skip
  refine uH s f1 p4 (by omega) ?_;(conv=>whnf)
  (repeat' ((first|(apply A0;omega)|fail)<;>conv=>whnf))
  refine FH (by omega) ?_;(conv=>whnf)
  (repeat' ((first|(apply CP;omega)|fail)<;>conv=>whnf))
  refine cN (by omega) f4 ?_;(conv=>whnf)
  (repeat' ((first|(apply AX;omega)|apply FN|(apply EJ;omega))<;>conv=>whnf))
  rw[<-iM];refine B3 [] (by (conv=>whnf);exact ⟨rfl,rfl,rfl⟩) (ih (i+1) _ _ (by omega) ⟨by omega,by simpa using p2,p3.set _ (by omega),f2,?_⟩);rw[GF (by omega),EC hd,Nat.pow_succ];exact Aer p5
 ·obtain rfl:i=a.length:=by omega
  clear ih;(repeat' ((first|(apply AG<;>intro hc<;>try (exfalso;omega))|(apply A0;omega)|apply AU|apply AE)<;>conv=>whnf))
  ·refine FH (by omega) ?_
   (conv=>whnf)
   skip
   refine ⟨_,?_,_,Aeq p3 (by omega) (by omega) p5,by simpa using p2,rfl⟩;(conv=>whnf)
   refine DR (enc:=AL) (λ_=>rfl) rfl (by simp [p2]) ?_;(conv=>whnf)
   exact AY rfl (by simp only[A6,true_and];exact CS _)
  ·refine ⟨_,?_,_,Aoa p3 (by omega) p5,p2,rfl⟩
   (conv=>whnf)
   refine DR (enc:=AL) (λ_=>rfl) rfl (by simp [p2]) ?_;(conv=>whnf)
   exact AY rfl (by simp only[A6,true_and];exact CS _)
theorem AlZ (N:l9 L) (a:List Nat) (q:Bool) (s:Nat) (hA:A3 a) (hs:s<=31) (la:a.length<=1099511627776) : ∃ r,Ev L 72 [.sl q (a.map AL),.int .u64 (s:Int)] r /\ ∃ o,A3 o/\o.length=a.length/\val o=val a/2^s/\r = .sl false (o.map AL):=by
 refine Ev.xE N.YT rfl rfl ?_;(repeat' ((first|apply AU|apply AE)<;>conv=>whnf))
 refine EK (enc:=AL) 0 a.length rfl rfl (by omega) ?_;(conv=>whnf)
 (repeat' ((first|(apply CB;omega)|apply AU)<;>conv=>whnf))
 refine GT (λ n _ _=>n) (λ(n:Nat) (o:List Nat) (hi:Nat)=>n<=a.length/\o.length=a.length/\A3 o/\hi=val (a.drop n)%2^s*2^(32-s)/\val (o.drop n)=val (a.drop n)/2^s) (λ n o hi=>[(6,.int .u32 (hi:Int)),(7,.int .i64 ((n:Int)-1))]) (λ n o hi=>[(10,10,.rw 1 (o.map AL))]) [] [] a.length (List.replicate a.length 0) 0 (by (conv=>whnf);exact ⟨rfl,rfl,rfl⟩) ⟨by omega,by simp,ON _,by rw[List.drop_of_length_le (Nat.le_refl _)];simp [val],by rw[List.drop_of_length_le (Nat.le_refl _),List.drop_of_length_le (by simp)];simp [val]⟩ ?_;intro n o hi ⟨p1,p2,p3,p4,p5⟩ ih;rcases n with _|n
 ·(repeat' ((first|(apply AG<;>intro hc<;>try (exfalso;omega))|apply AE)<;>conv=>whnf))
  rw[List.drop_zero,List.drop_zero]at p5;refine ⟨_,?_,_,p3,p2,p5,rfl⟩;(conv=>whnf)
  refine DR (enc:=AL) (λ_=>rfl) rfl p2.symm ?_;(conv=>whnf)
  exact AY rfl (by simp only[A6,true_and];exact CS _)
 ·have e1:((n+1:Nat):Int)-1=n:=by omega
  rw[e1];obtain ⟨d,hd⟩ : ∃ d,a[n]? = some d:=⟨_,zE (by omega)⟩;have gl:=hA.at hd;obtain ⟨f1,f2,f3⟩:=Aew (V:=val (a.drop (n+1))) gl (show s<=32 by omega);obtain ⟨g1,g2,g3,g4⟩:=iN gl (show 32-s<=32 by omega);rw[<-p4]at f2 f3;(repeat' ((first|(apply AG<;>intro hc<;>try (exfalso;omega))|(refine BH (by assumption) ?_ rfl ?_;omega)|apply AE)<;>conv=>whnf))
  refine Ahw (by omega) ?_;(conv=>whnf)
  skip
  refine Aht (32-s) f2 f1 (by omega) ?_;(conv=>whnf)
  (repeat' ((first|(apply A0;omega)|fail)<;>conv=>whnf))
  refine FH (by omega) ?_;(conv=>whnf)
  (repeat' ((first|(apply pI;omega)|(apply CP;omega)|(refine BH (by assumption) ?_ rfl ?_;omega))<;>conv=>whnf))
  rw[show ER 32 s=32-s by rw[iU];omega];refine cN (by omega) g4 ?_;(conv=>whnf)
  (repeat' ((first|(apply CB;omega)|apply F9)<;>conv=>whnf))
  rw[Aog (by omega)];refine B3 [] (by (conv=>whnf);exact ⟨rfl,rfl,rfl⟩) (ih n _ _ (by omega) ⟨by omega,by simpa using p2,p3.set _ (by omega),?_,?_⟩)
  ·rw[HT hd,Aex (by omega)]
  ·rw[HT (l:=o.set n (d/2^s+hi)) (d:=d/2^s+hi) (by rw[List.getElem?_set_self (by omega)]),List.drop_set_of_lt (by omega),p5,HT hd,yZ (by omega),<-p4]
theorem rM : ∀ n<256,(List.replicate 1 0++List.replicate 1 1++List.replicate 2 2++List.replicate 4 3++List.replicate 8 4++List.replicate 16 5++List.replicate 32 6++List.replicate 64 7++List.replicate 128 8)[n]? = some (aw n):=by decide +kernel
theorem Alv (N:l9 L) (x:Nat) (hx:x<4294967296):Ev L 63 [.int .u32 (x:Int)] (.int .i64 (aw x:Int)):=by
 have jk : ∀ y<256,aw y<=8:=λ y h=>pW (k:=8) h
 refine Ev.x N.YH rfl rfl ?_;(repeat' ((first|(apply AG<;>intro hc<;>try (exfalso;omega))|(apply AX;omega)|apply Ahq|apply Ahs|(apply Ahi;omega)|apply AE)<;>conv=>whnf))
 ·have Qu:=jk (x/65536/256) (by omega)
  refine pO (rM _ (by omega)) ?_;(conv=>whnf)
  (repeat' ((first|(apply AX;omega)|(apply fU;omega))<;>conv=>whnf))
  have h1:aw (x/65536)+16=aw x:=lR 16 (x:=x) (by omega);have h2:aw (x/65536/256)+8=aw (x/65536):=lR 8 (x:=x/65536) (by omega);refine DC ?_;rw[<-h1,<-h2];omega
 ·have Qu:=jk (x/65536) (by omega)
  refine pO (rM _ (by omega)) ?_;(conv=>whnf)
  (repeat' ((first|(apply AX;omega)|(apply fU;omega))<;>conv=>whnf))
  have h1:aw (x/65536)+16=aw x:=lR 16 (x:=x) (by omega);refine DC ?_;rw[<-h1];omega
 ·have Qu:=jk (x/256) (by omega)
  refine pO (rM _ (by omega)) ?_;(conv=>whnf)
  (repeat' ((first|(apply AX;omega)|(apply fU;omega))<;>conv=>whnf))
  have h2:aw (x/256)+8=aw x:=lR 8 (x:=x) (by omega);refine DC ?_;rw[<-h2];omega
 ·have Qu:=jk (x) (by omega)
  refine pO (rM _ (by omega)) ?_;(conv=>whnf)
  (repeat' ((first|(apply AX;omega)|(apply fU;omega))<;>conv=>whnf))
  refine DC ?_;omega
theorem Yv (N:l9 L) (x:Nat) (hx:x<4294967296):Ev L 64 [.int .u32 (x:Int)] (.int .i64 ((32-aw x:Nat):Int)):=by
 have h:=pW (k:=32) hx;refine Ev.x N.YG rfl rfl ?_;(repeat' ((first|(apply CB;omega)|apply AE|refine AD (Alv N x hx) ?_)<;>conv=>whnf))
 refine DC ?_;omega
end Go.e9

namespace Go.e9
def uD (a b c d:Int):Prop:=(0<=a/\b<=0/\c<=0/\0<=d)\/(a<=0/\0<=b/\0<=c/\d<=0)
structure fY (P Q a b c d p q:Int):Prop where
 hp:p=a*P+b*Q
 hq:q=c*P+d*Q
 sg:uD a b c d
 pa:0<=p+a
 pb:0<=p+b
 qc:0<=q+c
 qd:0<=q+d
theorem fY.start {P Q:Int} (hP:0<=P) (hQ:0<=Q):fY P Q 1 0 0 1 P Q :=
 ⟨by omega,by omega,Or.inl (by omega),by omega,by omega,by omega,by omega⟩
def lK (P Q a b c d:Int):Prop := ∀ x y K e1 e2:Int,0<K->x=K*P+e1->y=K*Q+e2->0<=e1->e1<=K->0<=e2->e2<=K ->
 0<=c*x+d*y/\c*x+d*y<a*x+b*y/\a*x+b*y<=y/\Int.gcd (a*x+b*y) (c*x+d*y)=Int.gcd x y
def jC (P Q a b c d:Int):Prop := ∀ x y K e1 e2:Int,0<K->x=K*P+e1->y=K*Q+e2->0<=e1->e1<=K->0<=e2->e2<=K ->
 c*x+d*y<=y/\Int.gcd (a*x+b*y) (c*x+d*y)=Int.gcd x y
theorem jC.start (P Q:Int):jC P Q 1 0 0 1:=by
 intro x y K e1 e2 _ _ _ _ _ _ _;simp
theorem lK.half {P Q a b c d:Int} (h:lK P Q a b c d):jC P Q a b c d:=λ x y K e1 e2 h1 h2 h3 h4 h5 h6 h7=>by
 obtain ⟨g1,g2,g3,g4⟩:=h x y K e1 e2 h1 h2 h3 h4 h5 h6 h7;exact ⟨by omega,g4⟩
theorem AmP (X Y f:Int):Int.gcd Y (X-f*Y)=Int.gcd X Y:=by
 rw[Int.gcd_comm X Y];exact Int.gcd_sub_mul_right_right Y X f
theorem fY.step {P Q a b c d p q f:Int} (h:fY P Q a b c d p q) (hc:q+c≠0) (hd:q+d≠0) (h1:f=(p+a)/(q+c)) (h2:f=(p+b)/(q+d)) :
  fY P Q c d (a-f*c) (b-f*d) q (p-f*q)/\0<=f/\p-f*q<q/\(jC P Q a b c d->lK P Q c d (a-f*c) (b-f*d)):=by
 have c0:0<q+c:=by have:=h.qc;omega
 have d0:0<q+d:=by have:=h.qd;omega
 have f0:0<=f:=by rw[h1];exact Int.ediv_nonneg h.pa h.qc
 have m1:p-f*q+(a-f*c)=(p+a)%(q+c):=by
  have:=Int.emod_add_mul_ediv (p+a) (q+c)
  rw[<-h1]at this;grind
 have m2:p-f*q+(b-f*d)=(p+b)%(q+d):=by
  have:=Int.emod_add_mul_ediv (p+b) (q+d)
  rw[<-h2]at this;grind
 have n1:0<=p-f*q+(a-f*c):=by rw[m1];exact Int.emod_nonneg _ hc
 have n2:0<=p-f*q+(b-f*d):=by rw[m2];exact Int.emod_nonneg _ hd
 have n3:p-f*q+(a-f*c)<q+c:=by rw[m1];exact Int.emod_lt_of_pos _ c0
 have n4:p-f*q+(b-f*d)<q+d:=by rw[m2];exact Int.emod_lt_of_pos _ d0
 have De:p-f*q=(a-f*c)*P+(b-f*d)*Q:=by rw[h.hp,h.hq];grind
 have Fp:uD c d (a-f*c) (b-f*d):=by
  rcases h.sg with ⟨s1,s2,s3,s4⟩|⟨s1,s2,s3,s4⟩
  ·have t1:f*c<=0:=Int.mul_nonpos_of_nonneg_of_nonpos f0 s3
   have t2:0<=f*d:=Int.mul_nonneg f0 s4;exact Or.inr (by omega)
  ·have t1:0<=f*c:=Int.mul_nonneg f0 s3
   have t2:f*d<=0:=Int.mul_nonpos_of_nonneg_of_nonpos f0 s4;exact Or.inl (by omega)
 have v9:p-f*q<q:=by
  rcases Fp with ⟨s1,s2,s3,s4⟩|⟨s1,s2,s3,s4⟩
  ·omega
  ·omega
 refine ⟨⟨h.hq,De,Fp,h.qc,h.qd,n1,n2⟩,f0,v9,λ hh => ?_⟩;intro x y K e1 e2 hK hx hy a1 a2 b1 b2;obtain ⟨k1,k2⟩:=hh x y K e1 e2 hK hx hy a1 a2 b1 b2;have eY:c*x+d*y=K*q+c*e1+d*e2:=by rw[hx,hy,h.hq];grind
 have eX:(a-f*c)*x+(b-f*d)*y=K*(p-f*q)+(a-f*c)*e1+(b-f*d)*e2:=by rw[hx,hy,De];grind
 have eS:(a-f*c)*x+(b-f*d)*y=(a*x+b*y)-f*(c*x+d*y):=by grind
 generalize hE:a-f*c=E at *;generalize hG:b-f*d=G at *;generalize Ap:p-f*q=q2 at *;have key:0<=E*x+G*y/\E*x+G*y<c*x+d*y:=by
  rw[eX,eY];rcases Fp with ⟨s1,s2,s3,s4⟩|⟨s1,s2,s3,s4⟩
  ·-- c≥0,d<=0,E<=0,G≥0
   have t1:E*K<=E*e1:=Int.mul_le_mul_of_nonpos_left s3 a2;have t2:0<=G*e2:=Int.mul_nonneg s4 b1;have t3:0<=K*(q2+E):=Int.mul_nonneg (by omega) n1;have t4:(G-d)*e2<=(G-d)*K:=Int.mul_le_mul_of_nonneg_left b2 (by omega);have t5:(E-c)*e1<=0:=Int.mul_nonpos_of_nonpos_of_nonneg (by omega) a1;have t6:0<K*((q+d)-(q2+G)):=Int.mul_pos hK (by omega);constructor
   ·grind
   ·grind
  ·have t1:G*K<=G*e2:=Int.mul_le_mul_of_nonpos_left s4 b2
   have t2:0<=E*e1:=Int.mul_nonneg s3 a1;have t3:0<=K*(q2+G):=Int.mul_nonneg (by omega) n2;have t4:(E-c)*e1<=(E-c)*K:=Int.mul_le_mul_of_nonneg_left a2 (by omega);have t5:(G-d)*e2<=0:=Int.mul_nonpos_of_nonpos_of_nonneg (by omega) b1;have t6:0<K*((q+c)-(q2+E)):=Int.mul_pos hK (by omega);constructor
   ·grind
   ·grind
 refine ⟨key.1,key.2,k1,?_⟩;rw[<-k2,eS];exact AmP _ _ _
end Go.e9

namespace Go.e9
theorem AgE {A w C:List Nat} {i n:Nat} (hi:i=A.length+n) (hn:n<w.length):(A++w++C)[i]? = w[n]? := by
 subst hi;rw[List.append_assoc,List.getElem?_append_right (by omega),Nat.add_sub_cancel_left,List.getElem?_append_left hn]
theorem AqQ {A w C:List Nat} {i n v:Nat} (hi:i=A.length+n) (hn:n<w.length):(A++w++C).set i v=A++w.set n v++C:=by
 subst hi;rw[List.append_assoc,List.set_append_right _ _ (by omega),Nat.add_sub_cancel_left,List.set_append_left _ _ hn,List.append_assoc]
theorem bK {A w C:List Nat} {i v:Nat} {KK:List (List AV)->Prop} (n:Nat) (hi:i=A.length+n) (hn:n<w.length) (h:KK ((A++w.set n v++C).map AL)):A7 ((A++w++C).map AL) i 0 [.int .u32 (v:Int)] KK:=by
 have hl:i<(A++w++C).length:=by simp;omega
 refine jF (enc:=AL) i v rfl rfl (λ_=>rfl) hl ?_;rw[AqQ hi hn];exact h
theorem Aow {W X Vi p q u d c b pr t:Nat} (h:W+q*Vi=X+p*(c+b)) (ya:pr=q*d+c) (ht:t=ER (ER u (pr%4294967296)) b) (hu:u<4294967296) (hb:b<=1) :
  W+p*(t%4294967296)+q*(Vi+p*d)=X+p*u+p*4294967296*(pr/4294967296+t/9223372036854775808):=by
 obtain ⟨h1,_⟩:=tN hu (show pr%4294967296<4294967296 by omega) hb;rw[<-ht]at h1;have h2:=Nat.mod_add_div pr 4294967296;generalize t%4294967296=w at *;generalize t/9223372036854775808=b' at *;generalize pr%4294967296=pl at *;generalize pr/4294967296=ph at *;have e1:p*(w+pl+b)=p*(u+4294967296*b'):=by rw[h1]
 have e2:p*(pl+4294967296*ph)=p*(q*d+c):=by rw[h2,ya]
 grind
theorem AeI {q d c pr:Nat} (hq:q<4294967296) (hd:d<4294967296) (hc:c<4294967296) (ya:pr=q*d+c):pr/4294967296<4294967296/\pr<=18446744073709551615/\q*d<=18446744065119617025:=by
 have:=kF hq hd
 omega
theorem Aou {W X V p q u c b t:Nat} (h:W+q*V=X+p*(c+b)) (ht:t=ER (ER u c) b) (hu:u<4294967296) (hc:c<4294967296) (hb:b<=1) :
  W+p*(t%4294967296)+q*V=X+p*u+p*4294967296*(t/9223372036854775808):=by
 obtain ⟨h1,_⟩:=tN hu hc hb;rw[<-ht]at h1;generalize t%4294967296=w at *;generalize t/9223372036854775808=b' at *;have e1:p*(w+c+b)=p*(u+4294967296*b'):=by rw[h1]
 grind
theorem Aox {W X Vi p q u d c b pr w take have' gn:Nat} (h:W+q*Vi=X+p*(c+b)) (ya:pr=c+q*d) (h1:take=pr%4294967296+b) (h2:(have'=u/\gn=0/\take<=u)\/(have'=u+4294967296/\gn=1/\u<take)) (h3:w+take=have') :
  W+p*w+q*(Vi+p*d)=X+p*u+p*4294967296*(pr/4294967296+gn):=by
 have h4:=Nat.mod_add_div pr 4294967296;have h5:w+pr%4294967296+b=u+4294967296*gn:=by omega
 generalize pr%4294967296=pl at *;generalize pr/4294967296=ph at *;have e1:p*(w+pl+b)=p*(u+4294967296*gn):=by rw[h5]
 have e2:p*(pl+4294967296*ph)=p*(c+q*d):=by rw[h4,ya]
 grind
theorem Aov {W X V p q u c b w take have' gn:Nat} (h:W+q*V=X+p*(c+b)) (h1:take=c+b) (h2:(have'=u/\gn=0/\take<=u)\/(have'=u+4294967296/\gn=1/\u<take)) (h3:w+take=have') :
  W+p*w+q*V=X+p*u+p*4294967296*gn:=by
 have h5:w+c+b=u+4294967296*gn:=by omega
 have e1:p*(w+c+b)=p*(u+4294967296*gn):=by rw[h5]
 grind
theorem Xp {W X Vi p w d c t:Nat} (h:W+p*c=X+Vi) (ht:t=w+d+c):W+p*(t%4294967296)+p*4294967296*(t/4294967296)=X+p*w+(Vi+p*d):=by
 have h1:=cQ W p t;have e:p*t=p*w+p*d+p*c:=by rw[ht];grind
 omega
theorem Xo {W X V R p w c:Nat} (h:W+p*c=X+V) (hX:X+p*w+V=R+p*4294967296) (hR:R<p*4294967296) (hW:W<p):W+p*((w+c)%4294967296)=R:=by
 have h1:W+p*(w+c)=R+p*4294967296:=by
  rw[Nat.mul_add];omega
 have h2:=Nat.mod_add_div (w+c) 4294967296;have h3:p*(w+c)=p*((w+c)%4294967296)+p*4294967296*((w+c)/4294967296):=by
  rw[Nat.mul_assoc,<-Nat.mul_add,h2]
 have h4:(w+c)%4294967296<4294967296:=Nat.mod_lt _ (by omega);generalize (w+c)%4294967296=m at *;generalize (w+c)/4294967296=k at *;have h5:W+p*m<p*4294967296:=by
  have:p*m+p<=p*4294967296:=by rw[<-Nat.mul_succ];exact Nat.mul_le_mul_left p (by omega)
  omega
 have h6:k=1:=by
  rcases Nat.lt_trichotomy k 1 with hk|hk|hk
  ·have:k=0:=by omega
   subst this;omega
  ·exact hk
  ·have:p*4294967296*2<=p*4294967296*k:=Nat.mul_le_mul_left _ (by omega)
   omega
 subst h6;omega
theorem Aqv {U V UL VL p u2 v2 v1 top:Nat} (hU:U=UL+p*(u2+4294967296*top)) (hV:V=VL+p*(v2+4294967296*v1)) (Ee:VL<p) (h2:v2<4294967296) (h:U<4294967296*V):top<4294967296*(v1+1):=by
 have h3:V<p*(4294967296*(v1+1)):=by
  have:p*(v2+4294967296*v1)+p<=p*(4294967296*(v1+1)):=by
   rw[<-Nat.mul_succ];exact Nat.mul_le_mul_left p (by omega)
  omega
 have h4:p*(4294967296*top)<=U:=by
  have:p*(4294967296*top)<=p*(u2+4294967296*top):=Nat.mul_le_mul_left p (by omega)
  omega
 have h5:p*(4294967296*top)<p*(4294967296*(4294967296*(v1+1))):=by
  have:p*(4294967296*(4294967296*(v1+1)))=4294967296*(p*(4294967296*(v1+1))):=by grind
  omega
 have:=Nat.lt_of_mul_lt_mul_left h5
 omega
structure Gs (U V v1 v2 u2 top q r:Nat):Prop where
 hq:q*v1+r=top
 hr:r<4294967296
 ge:U/V<=q
theorem Gs.next {U V UL VL p v1 v2 u2 top q r:Nat} (g:Gs U V v1 v2 u2 top q r) (hU:U=UL+p*(u2+4294967296*top)) (hV:V=VL+p*(v2+4294967296*v1)) (Ah:UL<p) (fg:0<V) (Lc:U<4294967296*V)
  (h:4294967296<=q\/r*4294967296+u2<q*v2):1<=q/\(q-1)*v1+(r+v1)=top/\U/V<=q-1:=by
 have h1:U/V<q:=by
  rcases h with h|h
  ·exact AmW Lc h fg
  ·exact AmX hU hV Ah g.hq h fg
 have hq:=g.hq;clear h g hU hV Lc;generalize U/V=Q at *;obtain ⟨k,rfl⟩ : ∃ k,q=k+1:=⟨q-1,by omega⟩;refine ⟨by omega,?_,by omega⟩;rw[Nat.add_sub_cancel,<-hq,Nat.add_mul];omega
theorem Gs.start {U V UL VL p v1 v2 u2 top:Nat} (hU:U=UL+p*(u2+4294967296*top)) (hV:V=VL+p*(v2+4294967296*v1)) (Ah:UL<p) (h2:u2<4294967296) (fg:0<V) (h1:0<v1) (h1b:v1<4294967296):Gs U V v1 v2 u2 top (top/v1) (top%v1):=by
 refine ⟨by rw[Nat.mul_comm];exact Nat.div_add_mod _ _,?_,?_⟩
 ·have:=Nat.mod_lt top h1
  omega
 ·rw[Nat.le_div_iff_mul_le h1]
  exact AmY hU hV Ah h2 fg
theorem jW {U V UL VL p v1 v2 u2 top q r:Nat} (hU:U=UL+p*(u2+4294967296*top)) (hV:V=VL+p*(v2+4294967296*v1)) (Ee:VL<p) (Ma:2147483648<=v1) (Mb:v2<4294967296) (Lc:U<4294967296*V) (hq:q*v1+r=top)
  (h:(q<4294967296/\q*v2<=r*4294967296+u2)\/4294967296<=r):q<4294967296/\q<=U/V+1:=by
 rcases h with ⟨h1,h2⟩|h
 ·exact ⟨h1,AdC hU hV Ee Ma hq h2 h1⟩
 ·have ht:=Aqv hU hV Ee Mb Lc
  have yc:q<4294967296:=by
   have h3:q*v1<4294967296*v1:=by omega
   exact Nat.lt_of_mul_lt_mul_right h3
  refine ⟨yc,AdC hU hV Ee Ma hq ?_ yc⟩;have:=kF yc Mb
  omega
theorem iT (a:List Nat) (k:Nat):val a=val (a.take k)+4294967296^k*val (a.drop k):=by
 rcases Nat.lt_or_ge a.length k with h|h
 ·rw[List.take_of_length_le (by omega),List.drop_of_length_le (by omega),OB];omega
 ·exact S6 a k h
theorem iS (a:List Nat) (k:Nat):val (a.drop k)=a.getD k 0+4294967296*val (a.drop (k+1)):=by
 rcases Nat.lt_or_ge k a.length with h|h
 ·rw[HT (zE h),List.getD_eq_getElem?_getD,zE h];rfl
 ·rw[List.drop_of_length_le h,List.drop_of_length_le (by omega),List.getD_eq_getElem?_getD,List.getElem?_eq_none h];rfl
theorem eI {a:List Nat} (h:A3 a) (k:Nat):a.getD k 0<4294967296:=by
 rw[List.getD_eq_getElem?_getD];cases e:a[k]? with
 | none=>simp
 | some d=>simpa using h.at e
theorem getD_some {a:List Nat} {k d:Nat} (h:a[k]? = some d):d=a.getD k 0:=by rw[List.getD_eq_getElem?_getD,h];rfl
theorem getD_none {a:List Nat} {k:Nat} (h:a.length<=k):0=a.getD k 0:=by rw[List.getD_eq_getElem?_getD,List.getElem?_eq_none h];rfl
theorem tW {a:List Nat} (hD:A3 a) {n:Nat} (hn:3<=n) (hl:a.length<=n) : ∃ r,r<4294967296^(n-3)/\val a=r+4294967296^(n-3)*(a.getD (n-3) 0+4294967296*(a.getD (n-2) 0+4294967296*a.getD (n-1) 0)):=by
 refine ⟨val (a.take (n-3)),?_,?_⟩
 ·refine Nat.lt_of_lt_of_le (FA (hD.take _)) (Nat.pow_le_pow_right (by omega) ?_)
  rw[List.length_take];omega
 ·have h1:=iT a (n-3)
  have h2:=iS a (n-3);have h3:=iS a (n-3+1);have h4:=iS a (n-3+1+1);rw[List.drop_of_length_le (show a.length<=n-3+1+1+1 by omega),OB]at h4;rw[show n-3+1=n-2 by omega]at *;rw[show n-2+1=n-1 by omega]at *;rw[h4,Nat.mul_zero,Nat.add_zero]at h3;rw[h3]at h2;rw[h2]at h1;exact h1
theorem Agx {a:List Nat} (hD:A3 a) {n:Nat} (hn:2<=n) (hl:a.length<=n) : ∃ r,r<4294967296^(n-2)/\val a=r+4294967296^(n-2)*(a.getD (n-2) 0+4294967296*a.getD (n-1) 0):=by
 refine ⟨val (a.take (n-2)),?_,?_⟩
 ·refine Nat.lt_of_lt_of_le (FA (hD.take _)) (Nat.pow_le_pow_right (by omega) ?_)
  rw[List.length_take];omega
 ·have h1:=iT a (n-2)
  have h2:=iS a (n-2);have h3:=iS a (n-2+1);rw[List.drop_of_length_le (show a.length<=n-2+1+1 by omega),OB]at h3;rw[show n-2+1=n-1 by omega]at *;rw[h3,Nat.mul_zero,Nat.add_zero]at h2;rw[h2]at h1;exact h1
theorem eC {a b:Nat} (h:a<=b):(dg a).length<=(dg b).length:=by
 rcases Nat.lt_or_ge (dg b).length (dg a).length with h1|h1
 ·have:=lC h1;omega
 ·exact h1
theorem vS {p:Nat} (h:p<18446744073709551616):val [p%4294967296,p/4294967296]=p/\A3 [p%4294967296,p/4294967296]:=by
 refine ⟨by simp [val];omega,λ x hx => ?_⟩;simp at hx;omega
theorem G2 {a:List Nat} {k d:Nat} (h:a[k]? = some d):a.getD k 0=d:=(getD_some h).symm
theorem yV {y:List Nat} {s yt:Nat} (hD:A3 y) (Cd:y[y.length-1]? = some yt) (hl:1<=y.length) (hs:s<=31) (b3:2147483648<=yt*2^s) (b4:yt*2^s<4294967296):val y*2^s<4294967296^y.length/\4294967296^(y.length-1)*2147483648<=val y*2^s:=by
 have h1:=S6 y (y.length-1) (by omega);have h2:=HT Cd;rw[List.drop_of_length_le (show y.length<=y.length-1+1 by omega),OB,Nat.mul_zero,Nat.add_zero]at h2;rw[h2]at h1;have h3:=FA (hD.take (y.length-1));rw[List.length_take,Nat.min_eq_left (by omega)]at h3;have e:4294967296^y.length=4294967296^(y.length-1)*4294967296:=by rw[<-Nat.pow_succ,Nat.succ_eq_add_one,show y.length-1+1=y.length by omega]
 rw[e];generalize 4294967296^(y.length-1)=p at *;have hk:(yt+1)*2^s<=4294967296:=by
  have e2:4294967296=2^s*2^(32-s):=by rw[<-Nat.pow_add,show s+(32-s)=32 by omega]
  rw[e2,Nat.mul_comm]at b4;have:=Nat.lt_of_mul_lt_mul_left b4
  rw[e2,Nat.mul_comm];exact Nat.mul_le_mul_left _ this
 have h4:val y+1<=p*(yt+1):=by rw[Nat.mul_add];omega
 have h5:=Nat.mul_le_mul_right (2^s) h4;have h6:p*((yt+1)*2^s)<=p*4294967296:=Nat.mul_le_mul_left p hk;rw[<-Nat.mul_assoc]at h6;have h7:p*2147483648<=p*(yt*2^s):=Nat.mul_le_mul_left p b3;have h8:p*(yt*2^s)<=val y*2^s:=by rw[<-Nat.mul_assoc];exact Nat.mul_le_mul_right _ (by omega)
 have h9:=Nat.two_pow_pos s;rw[Nat.add_mul]at h5;exact ⟨by omega,by omega⟩
theorem Ago {v:List Nat} {k c d:Nat} (hD:A3 v) (hl:v.length=k+1) (h:4294967296^k*c<=val v) (hd:v[k]? = some d):c<=d:=by
 have h1:=S6 v k (by omega);have h2:=HT hd;rw[List.drop_of_length_le (show v.length<=k+1 by omega),OB,Nat.mul_zero,Nat.add_zero]at h2;rw[h2]at h1;have h3:=FA (hD.take k);rw[List.length_take,Nat.min_eq_left (by omega)]at h3;generalize 4294967296^k=p at *;have h4:p*c<p*(d+1):=by rw[Nat.mul_add];omega
 have:=Nat.lt_of_mul_lt_mul_left h4
 omega
theorem Yk (o:List Nat) (j n:Nat) (h:j+n<=o.length) : ∃ A W C,A.length=j/\W.length=n/\o=A++W++C:=by
 refine ⟨o.take j,(o.drop j).take n,(o.drop j).drop n,by simp;omega,by simp;omega,?_⟩;rw[List.append_assoc,List.take_append_drop,List.take_append_drop]
theorem Zp {A W C:List Nat} (h:A3 (A++W++C)):A3 A/\A3 W/\A3 C:=by
 refine ⟨λ x hx=>h x (by simp [hx]),λ x hx=>h x (by simp [hx]),λ x hx=>h x (by simp [hx])⟩
theorem Ym {A W C:List Nat} {j l V:Nat} (hA:A.length=j) (hW:W.length=l+1) (hD:A3 (A++W++C)) (h:val ((A++W++C).drop (j+1))<V) (hV:V<4294967296^l) :
  val C=0/\val W<4294967296*V/\val ((A++W++C).take (j+1))+4294967296^(j+1)*val ((A++W++C).drop (j+1))=val A+4294967296^j*val W:=by
 have h1:=iT (A++W++C) (j+1);have h2:val (A++W++C)=val A+4294967296^j*(val W+4294967296^(l+1)*val C):=by
  rw[List.append_assoc,kZ,kZ,hA,hW]
 have h3:=iS (A++W++C) j;have h4:(A++W++C).drop j=W++C:=by
  rw[List.append_assoc,List.drop_append_of_le_length (by omega),List.drop_of_length_le (by omega)];rfl
 have h5:=eI hD j;rw[h4,kZ,hW]at h3;rw[Nat.pow_succ]at h3;have h6:val C=0:=by
  rcases Nat.eq_zero_or_pos (val C) with h0|h0
  ·exact h0
  ·have:4294967296^l*4294967296*1<=4294967296^l*4294967296*val C:=Nat.mul_le_mul_left _ h0
   omega
 rw[h6,Nat.mul_zero,Nat.add_zero]at h3;refine ⟨h6,by omega,?_⟩;rw[<-h1,h2,h6,Nat.mul_zero,Nat.add_zero]
theorem wJ {A W C:List Nat} {j:Nat} (hA:A.length=j) (hC:val C=0):val ((A++W++C).drop j)=val W/\val ((A++W++C).take j)=val A:=by
 rw[List.append_assoc,List.drop_append_of_le_length (by omega),List.drop_of_length_le (by omega),List.take_append_of_le_length (by omega),List.take_of_length_le (by omega),List.nil_append,kZ,hC];simp
theorem Yl {U VA P Q q V W R:Nat} (h:U=VA+P*W+P*4294967296*(Q*V)) (h2:W=q*V+R):U=VA+P*((q+4294967296*Q)*V+R):=by
 rw[h,h2];grind
section
variable {a b:Nat} {K:AV->Prop}
theorem Xf (n:Nat) (hx:a%2^n=0) (hy:b<2^n) (h:a+b<=18446744073709551615) (hk:K (.int .u64 ((a+b:Nat):Int))):AC .or .u64 (a:Int) .u64 (b:Int) K :=
 uF n hx hy (show a+b<18446744073709551616 by omega) (IntWalk.u64_in _ (by omega)) hk
theorem pF (n:Nat) (hx:b%2^n=0) (hy:a<2^n) (h:a+b<=18446744073709551615) (hk:K (.int .u64 ((a+b:Nat):Int))):AC .or .u64 (a:Int) .u64 (b:Int) K:=by
 have e:DW .or .u64 (a:Int) .u64 (b:Int)=DW .or .u64 (b:Int) .u64 (a:Int):=by
  simp only[DW,if_true,BitVec.or_comm]
 rw[Nat.add_comm]at hk h;have hh:=Xf (K:=K) n hx hy h hk;unfold AC at hh ⊢;rw[e];exact hh
end
theorem pE {a:Nat} {K:AV->Prop} (h:a<=18446744069414584319) (hk:K (.int .u64 ((a+4294967296:Nat):Int))):AC .add .u64 (a:Int) .u64 4294967296 K :=
 GH (b:=4294967296) (by omega) hk
theorem O4 {l:List Nat} {i e:Nat} {K:List AV->Prop} (he:l[i]? = some e) (h:K (AL e)):BD (l.map AL) (0+((i:Int)).toNat) 0 1 K :=
 oV (e:=e) (by rw[Nat.zero_add,Int.toNat_natCast];exact he) rfl h
theorem Aho {l:List Nat} {i:Int} {e:Nat} {K:List AV->Prop} (he:l[i.toNat]? = some e) (h:K (AL e)):BD (l.map AL) (0+i.toNat) 0 1 K :=
 oV (e:=e) (by rw[Nat.zero_add];exact he) rfl h
theorem dT {A w C:List Nat} {i e:Nat} {K:List AV->Prop} (n:Nat) (he:w[n]? = some e) (hi:i=A.length+n) (h:K (AL e)):BD ((A++w++C).map AL) i 0 1 K:=by
 have hn:=(zS he).1;exact oV (e:=e) (by rw[AgE hi hn];exact he) rfl h
end Go.e9

namespace Go.e9
def kA (n s:Nat):Nat:=4294967296^(n-3)*(2^(32-s)*4)
theorem An9 (n s:Nat):0<kA n s:=Nat.mul_pos (Nat.pow_pos (by omega)) (Nat.mul_pos (Nat.two_pow_pos _) (by omega))
theorem Aee {a:List Nat} (hD:A3 a) {n s d1 d2 d3:Nat} (hn:3<=n) (hl:a.length<=n) (hs:s<=31) (h1:d1=a.getD (n-1) 0) (h2:d2=a.getD (n-2) 0) (h3:d3=a.getD (n-3) 0) :
  ((d1*4294967296+d2)*2^s+d3*2^s/4294967296)/4=val a/kA n s:=by
 obtain ⟨r,hr,hv⟩:=tW hD hn hl;rw[<-h1,<-h2,<-h3]at hv;unfold kA;rw[hv,<-Nat.div_div_eq_div_mul,Nat.add_mul_div_left _ _ (Nat.pow_pos (by omega)),Nat.div_eq_of_lt hr,Nat.zero_add,<-Nat.div_div_eq_div_mul];congr 1;have e:d3+4294967296*(d2+4294967296*d1)=d3+2^(32-s)*(2^s*(d1*4294967296+d2)):=by
  rw[<-Nat.mul_assoc,<-Nat.pow_add,show 32-s+s=32 by omega];omega
 rw[e,Nat.add_mul_div_left _ _ (Nat.two_pow_pos _)];have:=AfK (d:=d3) (s:=s) (by omega)
 rw[iM]at this;rw[this,Nat.mul_comm (2^s)];omega
theorem Aef {a:List Nat} (hD:A3 a) {n s d1 d2:Nat} (hn:3<=n) (hl:a.length<=n) (h1:d1=a.getD (n-1) 0) (h2:d2=a.getD (n-2) 0) (v9:val a*2^s<4294967296^n) :
  (d1*4294967296+d2)*2^s<=18446744073709551615:=by
 obtain ⟨r,hr,hv⟩:=tW hD hn hl;rw[<-h1,<-h2]at hv;generalize a.getD (n-3) 0=d3 at *;have e:4294967296^n=4294967296^(n-3)*(4294967296*18446744073709551616):=by
  rw[show n=n-3+3 by omega,Nat.pow_add,show n-3+3-3=n-3 by omega]
 rw[e,hv]at v9;generalize 4294967296^(n-3)=p at *;have h3:p*(4294967296*((d1*4294967296+d2)*2^s))<p*(4294967296*18446744073709551616):=by
  refine Nat.lt_of_le_of_lt ?_ v9;rw[<-Nat.mul_assoc,<-Nat.mul_assoc];refine Nat.mul_le_mul_right _ ?_;have h5:p*(4294967296*(d2+4294967296*d1))<=p*(d3+4294967296*(d2+4294967296*d1)):=Nat.mul_le_mul_left p (by omega);rw[Nat.mul_assoc,show d1*4294967296+d2=d2+4294967296*d1 by omega];omega
 have:=Nat.lt_of_mul_lt_mul_left (Nat.lt_of_mul_lt_mul_left h3)
 omega
theorem rP {k s:Nat} (hs:s<=64) (h:k*2^s<=18446744073709551615):k*2^s+2^s<=18446744073709551616:=by
 have e:18446744073709551616=2^(64-s)*2^s:=by rw[<-Nat.pow_add,show 64-s+s=64 by omega]
 have h1:k<2^(64-s):=by
  refine Nat.lt_of_mul_lt_mul_right (a:=2^s) ?_;rw[<-e];omega
 have h2:=Nat.mul_le_mul_right (2^s) h1;rw[Nat.succ_mul,<-e]at h2;exact h2
theorem Aeg {a:List Nat} (hD:A3 a) {n s:Nat} (hn:3<=n) (hl:a.length<=n) (hs:s<=31) (v9:val a*2^s<4294967296^n):val a/kA n s<=4611686018427387904:=by
 rw[<-Aee hD hn hl hs rfl rfl rfl];have h1:=Aef hD hn hl rfl rfl v9;have b3:=eI hD (n-3);have h2:=rP (show s<=64 by omega) h1;obtain ⟨_,h3,_,_⟩:=iN (s:=s) b3 (by omega);rw[iM]at h3;generalize (a.getD (n-1) 0*4294967296+a.getD (n-2) 0)*2^s=T at *;generalize a.getD (n-3) 0*2^s=U at *;omega
theorem Aeh {V K:Nat} (hK:0<K) : ∃ e:Int,(V:Int)=(K:Int)*((V/K:Nat):Int)+e/\0<=e/\e<=K:=by
 refine ⟨((V%K:Nat):Int),?_,by omega,?_⟩
 ·have:=Nat.div_add_mod V K
  have h2:((K*(V/K)+V%K:Nat):Int)=(V:Int):=by rw[this]
  rw[<-h2];simp
 ·have:=Nat.mod_lt V hK
  omega
def mC (t:Int):Nat:=(t%4294967296).toNat
theorem Vf (t:Int):mC t<4294967296:=by unfold mC;omega
theorem vJ (t:Int):(mC t:Int)=t%4294967296:=by unfold mC;omega
def dQ (f g:Int):Prop:=(0<=f/\f<=2147483647 /\ -2147483647<=g/\g<=0)\/(-2147483647<=f/\f<=0/\0<=g/\g<=2147483647)
theorem AfJ {f:Int} {d:Nat} (hd:d<4294967296):(0<=f->f<=2147483647->0<=f*d/\f*d<=9223372030412324865)/\(f<=0 -> -2147483647<=f->f*d<=0 /\ -9223372030412324865<=f*d):=by
 constructor
 ·intro h0 h1
  refine ⟨Int.mul_nonneg h0 (by omega),?_⟩;have:f*d<=2147483647*4294967295:=Int.mul_le_mul h1 (by omega) (by omega) (by omega)
  omega
 ·intro h0 h1
  have a1:0<=(-f)*d:=Int.mul_nonneg (by omega) (by omega);have a2:(-f)*d<=2147483647*4294967295:=Int.mul_le_mul (by omega) (by omega) (by omega) (by omega);rw[Int.neg_mul]at a1 a2;omega
theorem dQ.rng {f g:Int} (h:dQ f g) {d e:Nat} (hd:d<4294967296) (he:e<4294967296):(-9223372030412324865<=f*d/\f*d<=9223372030412324865)/\(-9223372030412324865<=g*e/\g*e<=9223372030412324865) /\ -9223372030412324865<=f*d+g*e/\f*d+g*e<=9223372030412324865:=by
 obtain ⟨a1,a2⟩:=AfJ (f:=f) hd;obtain ⟨b1,b2⟩:=AfJ (f:=g) he;rcases h with ⟨h1,h2,h3,h4⟩|⟨h1,h2,h3,h4⟩
 ·have:=a1 h1 h2;have:=b2 h4 h3;omega
 ·have:=a2 h2 h1;have:=b1 h3 h4;omega
theorem Vg {V X Y p c f g d e t:Int} (h:V+p*c=f*X+g*Y) (ht:t=f*d+c+g*e):V+p*(t%4294967296)+p*4294967296*(t/4294967296)=f*(X+p*d)+g*(Y+p*e):=by
 have h1:=Int.emod_add_mul_ediv t 4294967296;have h2:p*(t%4294967296)+p*4294967296*(t/4294967296)=p*t:=by
  rw[Int.mul_assoc,<-Int.mul_add,h1]
 have h3:p*t=f*(p*d)+p*c+g*(p*e):=by rw[ht];grind
 have h4:f*(X+p*d)=f*X+f*(p*d):=by rw[Int.mul_add]
 have h5:g*(Y+p*e)=g*Y+g*(p*e):=by rw[Int.mul_add]
 omega
theorem Ai8 {V P:Nat} {c R:Int} (hV:V<P) (h:(V:Int)+P*c=R) (h0:0<=R) (h1:R<P):(V:Int)=R:=by
 have hc:c=0:=by
  rcases Int.lt_trichotomy c 0 with hc|hc|hc
  ·have:(P:Int)*c<=P*(-1):=Int.mul_le_mul_of_nonneg_left (by omega) (by omega)
   omega
  ·exact hc
  ·have:(P:Int)*1<=P*c:=Int.mul_le_mul_of_nonneg_left (by omega) (by omega)
   omega
 subst hc;omega
theorem mZ (x y:Nat):Nat.gcd y (x%y)=Nat.gcd x y:=by
 rw[Nat.gcd_comm x y,Nat.gcd_rec y x];exact Nat.gcd_comm _ _
end Go.e9

namespace Go.e9
open F
attribute [local irreducible] AA AF AM AC CK AR AW BD A7 BW AQ BT CD DB BP A4 BO CE AB A8 AJ pw B4 BK CF CI CN CX CJ BS CM
variable {L:Lib}
set_option maxHeartbeats 4000000
theorem PN (l:List Nat):A6 (.sl false (l.map AL)):=by
 simp only[A6,true_and];exact CS l
theorem Vs {M:Mem} {v:AV} {ky t z off len s:Nat} {l:List Nat} (hv:v = .row ky t z off len) (h:l6 M ky=some (s,.rw 1 (l.map AL))):gE M v=none:=by
 subst hv;unfold gE;split
 ·rename_i e
  simp only[AV.row.injEq]at e;obtain ⟨rfl,_⟩:=e;rw[h];cases l with
  | nil=>rfl
  | cons a l=>cases l<;>rfl
 ·rfl
theorem GP (N:l7 L) (l:List Nat) (q:Bool) (hD:A3 l) (hl:l.length<=1099511627776):Ev L 101 [.sl q (l.map AL)] (.sl false ((dg (val l)).map AL)):=by
 refine Ev.x N.IO rfl rfl ?_;(repeat' ((first|apply AU|apply AE)<;>conv=>whnf))
 refine B6 (λ n=>n) (λ(n:Nat)=>n<=l.length /\ ∀ i,n<=i->i<l.length->l[i]? = some 0) (λ n=>[(3,.int .i64 n)]) (λ_=>[]) [] [] l.length (by (conv=>whnf);exact ⟨rfl,rfl,rfl⟩) ⟨Nat.le_refl _,λ i h1 h2=>by omega⟩ ?_;intro n ⟨p1,p2⟩ ih;rcases n with _|n
 ·have hv:=GO hD p1 p2 (Or.inl rfl)
  rw[<-hv];clear ih;(repeat' ((first|(apply AG<;>intro hc<;>try (exfalso;omega))|apply AE)<;>conv=>whnf))
  refine gB (k:=0) (λ_=>rfl) (by omega) ?_;(conv=>whnf)
  refine dP (enc:=AL) (λ_=>rfl) (by rw[List.length_take];omega) (by rw[List.length_take];omega) ?_;(conv=>whnf)
  (repeat' ((refine DR (λ_=>rfl) rfl ?_ ?_;(first|rfl|simp))<;>conv=>whnf))
  exact AY rfl (PN _)
 ·have e1:((n+1:Nat):Int)-1=n:=by omega
  (repeat' ((first|(apply AG<;>intro hc<;>try (exfalso;omega))|(apply CB;omega)|(refine dV (by assumption) ?_ (λ e he hb => ?_);omega)|apply AE)<;>conv=>whnf))
  ·rw[e1]
   exact BL [] (ih n (by omega) ⟨by omega,λ i h1 h2=>by
    by_cases h:i=n
    ·subst h
     rw[e1,Int.toNat_natCast]at he;rw[he];congr 1;omega
    ·exact p2 i (by omega) h2⟩)
  ·rw[e1,Int.toNat_natCast]at he
   have hv:=GO hD p1 p2 (Or.inr ⟨e,he,by omega⟩);rw[<-hv];clear ih;refine gB (k:=n+1) (λ_=>rfl) (by omega) ?_;(conv=>whnf)
   refine dP (enc:=AL) (λ_=>rfl) (by rw[List.length_take];omega) (by rw[List.length_take];omega) ?_;(conv=>whnf)
   (repeat' ((refine DR (λ_=>rfl) rfl ?_ ?_;(first|rfl|simp))<;>conv=>whnf))
   exact AY rfl (PN _)
theorem wZ (N:l7 L) (a b:List Nat) (q1 q2:Bool) (hA:A3 a) (hB:A3 b) (la:a.length<=1099511627776) (lb:b.length<=1099511627776):Ev L 102 [.sl q1 (a.map AL),.sl q2 (b.map AL)] (.int .i64 (DD (val a) (val b))):=by
 have t1:=λ q=>GP N a q hA la
 have t2:=λ q=>GP N b q hB lb
 have l1:=E2 hA;have l2:=E2 hB;have d1:=EA (val a);have d2:=EA (val b);refine Ev.x N.ZY rfl rfl ?_;by_cases hlen:(dg (val a)).length=(dg (val b)).length
 ·have v1:=B5 (val a)
  have v2:=B5 (val b);generalize dg (val a)=X at *;generalize dg (val b)=Y at *;(repeat' ((first|(apply AG<;>intro hc<;>try (exfalso;omega))|(apply CB;omega)|apply AU|apply AE|refine AD (t1 _) ?_|refine AD (t2 _) ?_)<;>conv=>whnf))
  refine B6 (λ n=>n) (λ(n:Nat)=>n<=X.length/\X.drop n=Y.drop n) (λ n=>[(5,.int .i64 ((n:Int)-1))]) (λ_=>[]) [] [] X.length (by (conv=>whnf);exact ⟨rfl,rfl,rfl⟩) ⟨Nat.le_refl _,by rw[List.drop_of_length_le (Nat.le_refl _),List.drop_of_length_le (by omega)]⟩ ?_;intro n ⟨p1,p2⟩ ih;rcases n with _|n
  ·(repeat' ((first|(apply AG<;>intro hc<;>try (exfalso;omega))|apply AE)<;>conv=>whnf))
   rw[List.drop_zero,List.drop_zero]at p2;exact DC (gJ (by rw[<-v1,<-v2,p2]))
  ·have e1:((n+1:Nat):Int)-1=n:=by omega
   rw[e1];obtain ⟨x,hx⟩ : ∃ x,X[n]? = some x:=⟨_,zE (by omega)⟩;obtain ⟨y,hy⟩ : ∃ y,Y[n]? = some y:=⟨_,zE (by omega)⟩;rcases Nat.lt_trichotomy x y with h|h|h
   ·have:=tS d1 d2 hlen hx hy p2 h
    (repeat' ((first|(apply AG<;>intro hc<;>try (exfalso;omega))|(refine BH (by assumption) ?_ rfl ?_;omega)|apply AE)<;>conv=>whnf))
    exact DC (JZ (by omega))
   ·subst h
    (repeat' ((first|(apply AG<;>intro hc<;>try (exfalso;omega))|(apply CB;omega)|(refine BH (by assumption) ?_ rfl ?_;omega)|apply AE)<;>conv=>whnf))
    refine B3 [] (by (conv=>whnf);exact ⟨rfl,rfl,rfl⟩) (ih n (by omega) ⟨by omega,?_⟩);obtain ⟨i1,e1⟩:=zS hx;obtain ⟨i2,e2⟩:=zS hy;rw[List.drop_eq_getElem_cons i1,List.drop_eq_getElem_cons i2,p2,e1,e2]
   ·have:=tS d2 d1 hlen.symm hy hx p2.symm h
    (repeat' ((first|(apply AG<;>intro hc<;>try (exfalso;omega))|(refine BH (by assumption) ?_ rfl ?_;omega)|apply AE)<;>conv=>whnf))
    exact DC (bR (by omega))
 ·rcases Nat.lt_trichotomy (dg (val a)).length (dg (val b)).length with h1|h1|h1
  ·have:=lC h1
   (repeat' ((first|(apply AG<;>intro hc<;>try (exfalso;omega))|apply AU|apply AE|refine AD (t1 _) ?_|refine AD (t2 _) ?_)<;>conv=>whnf))
   exact DC (JZ (by omega))
  ·exact absurd h1 hlen
  ·have:=lC h1
   (repeat' ((first|(apply AG<;>intro hc<;>try (exfalso;omega))|apply AU|apply AE|refine AD (t1 _) ?_|refine AD (t2 _) ?_)<;>conv=>whnf))
   exact DC (bR (by omega))
theorem Nm {y:List Nat} (i:Nat):val (y.take (i+1))=val (y.take i)+4294967296^i*y.getD i 0:=by
 rcases Nat.lt_or_ge i y.length with h|h
 ·rw[EC (zE h),G2 (zE h)]
 ·rw[<-getD_none h,DG h,DG (by omega)];omega
theorem Ada (N:l7 L) (a b:List Nat) (q1 q2:Bool) (hA:A3 a) (hB:A3 b) (la:a.length<=549755813888) (lb:b.length<=549755813888):Ev L 103 [.sl q1 (a.map AL),.sl q2 (b.map AL)] (.sl false ((dg (val a+val b)).map AL)):=by
 refine Ev.x N.ZW rfl rfl ?_;(repeat' (apply AE<;>conv=>whnf))
 refine GT (λ i _ _=>a.length+b.length-i) (λ(i:Nat) (o:List Nat) (c:Nat)=>(i<=a.length\/i<=b.length)/\o.length=i/\A3 o/\c<=1/\val o+4294967296^i*c=val (a.take i)+val (b.take i)) (λ i o c=>[(7,.int .i64 i),(6,.int .u64 (c:Int)),(5,.row 5 0 1 0 o.length)]) (λ i o c=>[(5,5,.rw 1 (o.map AL))]) [] [] 0 [] 0 (by (conv=>whnf);exact ⟨rfl,rfl,rfl⟩) ⟨by omega,rfl,jP,by omega,by simp [val]⟩ ?_;intro i o c ⟨p1,p2,p3,p4,p5⟩ ih;by_cases hi:i<a.length\/i<b.length
 ·have g1:=Nm (y:=a) i
  have g2:=Nm (y:=b) i;have k1:=eI hA i;have k2:=eI hB i;have o9 : ∀ t,t=c+a.getD i 0+b.getD i 0->val (o++[t%4294967296])+4294967296^(i+1)*(t/4294967296)=val (a.take (i+1))+val (b.take (i+1)):=λ t ht=>by
   have h3:=cQ (val o) (4294967296^i) t;rw[bC,p2,g1,g2,Nat.pow_succ];rw[h3,ht,Nat.mul_add,Nat.mul_add];omega
  by_cases h1:i<a.length
  ·obtain ⟨x,hx⟩ : ∃ x,a[i]? = some x:=⟨_,zE h1⟩
   have Dp:=hA.at hx;rw[G2 hx]at o9;by_cases h2:i<b.length
   ·obtain ⟨y,hy⟩ : ∃ y,b[i]? = some y:=⟨_,zE h2⟩
    have Dr:=hB.at hy;rw[G2 hy]at o9;(repeat' ((first|(apply AG<;>intro hc<;>try (exfalso;omega))|(apply GH;omega)|(apply CP;omega)|apply F9|apply AU|(refine BH (by assumption) ?_ rfl ?_;omega)|apply EL|apply AE)<;>conv=>whnf))
    refine E6 (enc:=AL) (((c+x+y)%4294967296:Nat)) rfl rfl rfl (by omega) (by omega) ?_;(conv=>whnf)
    (repeat' ((first|(apply AX;omega)|apply FN)<;>conv=>whnf))
    refine B3 [(5,46)] (by (conv=>whnf);exact ⟨rfl,rfl,rfl⟩) (ih (i+1) (o++[(c+x+y)%4294967296]) ((c+x+y)/4294967296) (by omega) ⟨by omega,by simp;omega,p3.append (II (by omega)),by omega,?_⟩);exact o9 (c+x+y) (by omega)
   ·rw[<-getD_none (show b.length<=i by omega)]at o9
    (repeat' ((first|(apply AG<;>intro hc<;>try (exfalso;omega))|(apply GH;omega)|(apply CP;omega)|apply F9|apply AU|(refine BH (by assumption) ?_ rfl ?_;omega)|apply EL|apply AE)<;>conv=>whnf))
    refine E6 (enc:=AL) (((c+x)%4294967296:Nat)) rfl rfl rfl (by omega) (by omega) ?_;(conv=>whnf)
    (repeat' ((first|(apply AX;omega)|apply FN)<;>conv=>whnf))
    refine B3 [(5,46)] (by (conv=>whnf);exact ⟨rfl,rfl,rfl⟩) (ih (i+1) (o++[(c+x)%4294967296]) ((c+x)/4294967296) (by omega) ⟨by omega,by simp;omega,p3.append (II (by omega)),by omega,?_⟩);exact o9 (c+x) (by omega)
  ·obtain ⟨y,hy⟩ : ∃ y,b[i]? = some y:=⟨_,zE (by omega)⟩
   have Dr:=hB.at hy;rw[G2 hy,<-getD_none (show a.length<=i by omega)]at o9;(repeat' ((first|(apply AG<;>intro hc<;>try (exfalso;omega))|(apply GH;omega)|(apply CP;omega)|apply F9|apply AU|(refine BH (by assumption) ?_ rfl ?_;omega)|apply EL|apply AE)<;>conv=>whnf))
   refine E6 (enc:=AL) (((c+y)%4294967296:Nat)) rfl rfl rfl (by omega) (by omega) ?_;(conv=>whnf)
   (repeat' ((first|(apply AX;omega)|apply FN)<;>conv=>whnf))
   refine B3 [(5,46)] (by (conv=>whnf);exact ⟨rfl,rfl,rfl⟩) (ih (i+1) (o++[(c+y)%4294967296]) ((c+y)/4294967296) (by omega) ⟨by omega,by simp;omega,p3.append (II (by omega)),by omega,?_⟩);exact o9 (c+y) (by omega)
 ·clear ih
  have hv:val (o++[c])=val a+val b:=by
   rw[DG (by omega),DG (by omega)]at p5;rw[bC,p2,p5]
  have hT:=λ q=>GP N (o++[c]) q (p3.append (II (by omega))) (by simp;omega)
  rw[hv]at hT;(repeat' ((first|(apply AG<;>intro hc<;>try (exfalso;omega))|(apply EJ;omega)|apply AU|apply EL|apply AE)<;>conv=>whnf))
  refine E6 (enc:=AL) c rfl rfl rfl (by omega) (by omega) ?_;(conv=>whnf)
  (repeat' ((first|(refine DR (λ_=>rfl) rfl ?_ ?_;(first|rfl|simp))|refine AD (hT _) ?_)<;>conv=>whnf))
  exact AY rfl (PN _)
theorem qF {a b:Nat} (h:b<=a):0<=DD a b:=by unfold DD;split<;>(try split)<;>omega
theorem Apt {V Y X p d e bw have' take w gn:Nat} (h:V+Y=X+p*bw) (h1:take=bw+e) (h2:(have'=d/\gn=0/\take<=d)\/(have'=d+4294967296/\gn=1/\d<take)) (h3:w+take=have'):V+p*w+(Y+p*e)=X+p*d+p*4294967296*gn:=by
 have h4:w+bw+e=d+4294967296*gn:=by omega
 have h5:p*(w+bw+e)=p*(d+4294967296*gn):=by rw[h4]
 rw[Nat.mul_add,Nat.mul_add,Nat.mul_add,<-Nat.mul_assoc]at h5;omega
theorem Afi (N:l7 L) (x y:List Nat) (hX:A3 x) (hY:A3 y) (lx:x.length<=549755813888) (ly:y.length<=549755813888) (hle:val y<=val x) :
  AA L [It.lp OT.l1,It.m5 0,It.code (((BJ.ops OT.jf false).dr [1,5,6,7,21,53,54] []).seq BJ.ret)]
  [(7,AV.int IntKind.i64 0),(6,AV.int IntKind.u64 0),(5,AV.row 101021 0 1 0 x.length),(1,AV.sl false (List.map AL y))]
  [(101021,101021,A9.rw 1 (List.map AL x))]
  (dW OT (AV.sl false (List.map AL (dg (val x-val y))))):=by
 refine GT (λ i _ _=>x.length-i) (λ(i:Nat) (o:List Nat) (bw:Nat)=>i<=x.length/\o.length=x.length/\A3 o/\bw<=1/\o.drop i=x.drop i/\val (o.take i)+val (y.take i)=val (x.take i)+4294967296^i*bw) (λ i o bw=>[(7,.int .i64 i),(6,.int .u64 (bw:Int))]) (λ i o bw=>[(101021,101021,.rw 1 (o.map AL))]) [] [] 0 x 0 (by (conv=>whnf);exact ⟨rfl,rfl,rfl⟩) ⟨by omega,rfl,hX,by omega,rfl,by simp [val]⟩ ?_;intro i o bw ⟨p1,p2,p3,p4,p5,p6⟩ ih;by_cases hi:i<x.length
 ·obtain ⟨d,hd⟩ : ∃ d,o[i]? = some d:=⟨_,zE (by omega)⟩
  have gl:=p3.at hd;have hxi:x[i]? = some d:=by
   have e1:(o.drop i)[0]? = (x.drop i)[0]? := by rw[p5]
   simpa [hd] using e1.symm
  have g1:=EC hxi;have g2:=Nm (y:=y) i;have ge:=eI hY i;have o9 : ∀ have' take w gn,take=bw+y.getD i 0->((have'=d/\gn=0/\take<=d)\/(have'=d+4294967296/\gn=1/\d<take))->w+take=have'->val ((o.set i w).take (i+1))+val (y.take (i+1))=val (x.take (i+1))+4294967296^(i+1)*gn:=λ have' take w gn a1 a2 a3=>by
   rw[GF (by omega),g1,g2,Nat.pow_succ];exact Apt p6 a1 a2 a3
  have ua : ∀ w,(o.set i w).drop (i+1)=x.drop (i+1):=λ w=>by
   rw[List.drop_set_of_lt (by omega)];have e1:(o.drop i).drop 1=(x.drop i).drop 1:=by rw[p5]
   simpa using e1
  by_cases hy:i<y.length
  ·obtain ⟨e,he⟩ : ∃ e,y[i]? = some e:=⟨_,zE hy⟩
   have Rg:=hY.at he;rw[G2 he]at o9;by_cases v9:d<bw+e
   ·have h3:=o9 (d+4294967296) (bw+e) (d+4294967296-(bw+e)) 1 (by omega) (Or.inr ⟨rfl,rfl,v9⟩) (by omega)
    (repeat' ((first|(apply AG<;>intro hc<;>try (exfalso;omega))|(apply A0;omega)|(apply GH;omega)|(apply OD;omega;omega)|(apply pE;omega)|(apply CP;omega)|(apply EJ;omega)|apply AU|(refine BH (by assumption) ?_ rfl ?_;omega)|refine O4 (by assumption) ?_|apply AE)<;>conv=>whnf))
    refine FH (by omega) ?_;(conv=>whnf)
    (repeat' ((first|(apply AX;omega)|fail)<;>conv=>whnf))
    exact B3 [] (by (conv=>whnf);exact ⟨rfl,rfl,rfl⟩) (ih (i+1) (o.set i (d+4294967296-(bw+e))) 1 (by omega) ⟨by omega,by simpa using p2,p3.set _ (by omega),by omega,ua _,h3⟩)
   ·have h3:=o9 d (bw+e) (d-(bw+e)) 0 (by omega) (Or.inl ⟨rfl,rfl,by omega⟩) (by omega)
    (repeat' ((first|(apply AG<;>intro hc<;>try (exfalso;omega))|(apply A0;omega)|(apply GH;omega)|(apply OD;omega;omega)|(apply CP;omega)|(apply EJ;omega)|apply AU|(refine BH (by assumption) ?_ rfl ?_;omega)|refine O4 (by assumption) ?_|apply AE)<;>conv=>whnf))
    refine FH (by omega) ?_;(conv=>whnf)
    (repeat' ((first|(apply AX;omega)|fail)<;>conv=>whnf))
    exact B3 [] (by (conv=>whnf);exact ⟨rfl,rfl,rfl⟩) (ih (i+1) (o.set i (d-(bw+e))) 0 (by omega) ⟨by omega,by simpa using p2,p3.set _ (by omega),by omega,ua _,h3⟩)
  ·rw[<-getD_none (show y.length<=i by omega)]at o9
   by_cases v9:d<bw
   ·have h3:=o9 (d+4294967296) (bw) (d+4294967296-(bw)) 1 (by omega) (Or.inr ⟨rfl,rfl,v9⟩) (by omega)
    (repeat' ((first|(apply AG<;>intro hc<;>try (exfalso;omega))|(apply A0;omega)|(apply OD;omega;omega)|(apply pE;omega)|(apply CP;omega)|(apply EJ;omega)|apply AU|refine O4 (by assumption) ?_|apply AE)<;>conv=>whnf))
    refine FH (by omega) ?_;(conv=>whnf)
    (repeat' ((first|(apply AX;omega)|fail)<;>conv=>whnf))
    exact B3 [] (by (conv=>whnf);exact ⟨rfl,rfl,rfl⟩) (ih (i+1) (o.set i (d+4294967296-(bw))) 1 (by omega) ⟨by omega,by simpa using p2,p3.set _ (by omega),by omega,ua _,h3⟩)
   ·have h3:=o9 d (bw) (d-(bw)) 0 (by omega) (Or.inl ⟨rfl,rfl,by omega⟩) (by omega)
    (repeat' ((first|(apply AG<;>intro hc<;>try (exfalso;omega))|(apply A0;omega)|(apply OD;omega;omega)|(apply CP;omega)|(apply EJ;omega)|apply AU|refine O4 (by assumption) ?_|apply AE)<;>conv=>whnf))
    refine FH (by omega) ?_;(conv=>whnf)
    (repeat' ((first|(apply AX;omega)|fail)<;>conv=>whnf))
    exact B3 [] (by (conv=>whnf);exact ⟨rfl,rfl,rfl⟩) (ih (i+1) (o.set i (d-(bw))) 0 (by omega) ⟨by omega,by simpa using p2,p3.set _ (by omega),by omega,ua _,h3⟩)
 ·obtain rfl:i=x.length:=by omega
  clear ih;rw[DG (by omega),DG (Nat.le_refl _)]at p6;have h1:=FA p3;rw[p2]at h1;have h2:val (y.take x.length)<=val y:=by have:=iT y x.length;omega
  have Gj:bw=0:=by
   rcases Nat.eq_zero_or_pos bw with h|h
   ·exact h
   ·have:bw=1:=by omega
    subst this;omega
  subst Gj;have hve:val (y.take x.length)=val y:=by
   have h3:=iT y x.length;rcases Nat.eq_zero_or_pos (val (y.drop x.length)) with h|h
   ·rw[h]at h3;omega
   ·have h4:4294967296^x.length*1<=4294967296^x.length*val (y.drop x.length):=Nat.mul_le_mul_left _ h
    have h5:=FA hX;omega
  have hv:val o=val x-val y:=by omega
  have hT:=λ q=>GP N o q p3 (by omega)
  rw[<-hv,<-p2];(repeat' ((first|(apply AG<;>intro hc<;>try (exfalso;omega))|(refine DR (λ_=>rfl) rfl ?_ ?_;(first|rfl|simp))|apply AE|refine AD (hT _) ?_)<;>conv=>whnf))
  exact AY rfl (PN _)
theorem xA (N:l7 L) (a b:List Nat) (q1 q2:Bool) (hA:A3 a) (hB:A3 b) (la:a.length<=549755813888) (lb:b.length<=549755813888):Ev L 104 [.sl q1 (a.map AL),.sl q2 (b.map AL)] (.sl false ((dg (val a-val b)).map AL)):=by
 have u6:=λ q q'=>wZ N a b q q' hA hB (by omega) (by omega)
 have t2:=λ q=>GP N b q hB (by omega)
 refine Ev.x N.OT rfl rfl ?_;by_cases v9:val a<val b
 ·rw[<-JZ (by omega)]at u6
  rw[show val a-val b=0 by omega,E8];(repeat' ((first|(apply AG<;>intro hc<;>try (exfalso;omega))|apply AE|refine AD (u6 _ _) ?_)<;>conv=>whnf))
  exact AY rfl (PN [])
 ·have qt:=qF (show val b<=val a by omega)
  generalize DD (val a) (val b)=cm at *;have d2:=EA (val b);have v2:=B5 (val b);have l2:=E2 hB;rw[<-v2];rw[<-v2]at v9;generalize dg (val b)=y at *;have Lk : ∀ n,a.take n=dg (val a)->val (a.take n)=val a:=λ n h=>by rw[h,B5]
  (repeat' ((first|(apply AG<;>intro hc<;>try (exfalso;omega))|apply AE|refine AD (u6 _ _) ?_|refine AD (t2 _) ?_)<;>conv=>whnf))
  refine FY 1000 N.IO rfl rfl ?_;(repeat' ((first|apply AU|apply AE)<;>conv=>whnf))
  refine B6 (λ n=>n) (λ(n:Nat)=>n<=a.length /\ ∀ i,n<=i->i<a.length->a[i]? = some 0) (λ n=>[(3,.int .i64 n)]) (λ_=>[]) [] [] a.length (by (conv=>whnf);exact ⟨rfl,rfl,rfl⟩) ⟨Nat.le_refl _,λ i h1 h2=>by omega⟩ ?_;intro n ⟨p1,p2⟩ ih;rcases n with _|n
  ·have hv:=Lk _ (GO hA p1 p2 (Or.inl rfl))
   clear ih;(repeat' ((first|(apply AG<;>intro hc<;>try (exfalso;omega))|apply AE)<;>conv=>whnf))
   refine gB (k:=0) (λ_=>rfl) (by omega) ?_;(conv=>whnf)
   refine dP (enc:=AL) (λ_=>rfl) (by rw[List.length_take];omega) (by rw[List.length_take];omega) ?_;(conv=>whnf)
   refine ⟨rfl,_,rfl,?_⟩;(conv=>whnf)
   skip
   rw[<-hv];exact B3 [] (by (conv=>whnf);exact ⟨rfl,rfl,rfl⟩) (Afi N (a.take 0) y (hA.take _) d2 (by simp) (by omega) (by omega))
  ·have e1:((n+1:Nat):Int)-1=n:=by omega
   (repeat' ((first|(apply AG<;>intro hc<;>try (exfalso;omega))|(apply CB;omega)|(refine dV (by assumption) ?_ (λ e he hb => ?_);omega)|apply AE)<;>conv=>whnf))
   ·rw[e1]
    exact BL [] (ih n (by omega) ⟨by omega,λ i h1 h2=>by
     by_cases h:i=n
     ·subst h
      rw[e1,Int.toNat_natCast]at he;rw[he];congr 1;omega
     ·exact p2 i (by omega) h2⟩)
   ·rw[e1,Int.toNat_natCast]at he
    have hv:=Lk _ (GO hA p1 p2 (Or.inr ⟨_,he,by omega⟩));clear ih;refine gB (k:=n+1) (λ_=>rfl) (by omega) ?_;(conv=>whnf)
    refine dP (enc:=AL) (λ_=>rfl) (by rw[List.length_take];omega) (by rw[List.length_take];omega) ?_;(conv=>whnf)
    refine ⟨rfl,_,rfl,?_⟩;(conv=>whnf)
    skip
    rw[<-hv];exact B3 [] (by (conv=>whnf);exact ⟨rfl,rfl,rfl⟩) (Afi N (a.take (n+1)) y (hA.take _) d2 (by rw[List.length_take];omega) (by omega) (by omega))
theorem Amj (N:l7 L) (x y:List Nat) (q1 q2:Bool) (hA:A3 x) (hB:A3 y) (lab:x.length+y.length<=549755813888):Ev L 105 [.sl q1 (x.map AL),.sl q2 (y.map AL)] (.sl false ((dg (val x*val y)).map AL)):=by
 refine Ev.x N.Z0 rfl rfl ?_;(repeat' ((first|(apply AX;omega)|apply AU|apply AE)<;>conv=>whnf))
 refine EK (enc:=AL) 0 (x.length+y.length+1) rfl (by omega) (by omega) ?_;(conv=>whnf)
 skip
 refine G8 (λ i _=>x.length-i) (λ(i:Nat) (o:List Nat)=>i<=x.length/\o.length=x.length+y.length+1/\A3 o/\val o=val (x.take i)*val y /\ ∀ k,i+y.length<=k->k<o.length->o[k]? = some 0) (λ i o=>[(6,.int .i64 i)]) (λ i o=>[(15,15,.rw 1 (o.map AL))]) [] [] 0 (List.replicate (x.length+y.length+1) 0) (by (conv=>whnf);exact ⟨rfl,rfl,rfl⟩) ⟨by omega,by simp,ON _,by simp [val,tX],λ k h1 h2=>by simp at h2;simp [h2]⟩ ?_;intro i O ⟨p1,p2,p3,p4,p5⟩ ih;by_cases hi:i<x.length
 ·obtain ⟨d,hd⟩ : ∃ d,x[i]? = some d:=⟨_,zE hi⟩
  have gl:=hA.at hd;(repeat' ((first|(apply AG<;>intro hc<;>try (exfalso;omega))|apply AU|apply AE)<;>conv=>whnf))
  refine GT (λ j _ _=>y.length-j) (λ(j:Nat) (o:List Nat) (c:Nat)=>j<=y.length/\o.length=x.length+y.length+1/\A3 o/\c<4294967296/\val o+4294967296^(i+j)*c=val O+4294967296^i*(d*val (y.take j)) /\ ∀ k,i+j<=k->o[k]? = O[k]?) (λ j o c=>[(7,.int .u64 (c:Int)),(8,.int .i64 j)]) (λ j o c=>[(15,15,.rw 1 (o.map AL))]) [] [] 0 O 0 (by (conv=>whnf);exact ⟨rfl,rfl,rfl⟩) ⟨by omega,p2,p3,by omega,by simp [val],λ_ _=>rfl⟩ ?_;intro j o c ⟨r1,r2,r3,r4,r5,r6⟩ jh;have e1:((i:Int)+j).toNat=i+j:=by omega
  by_cases hj:j<y.length
  ·obtain ⟨w,hw⟩ : ∃ w,y[j]? = some w:=⟨_,zE hj⟩
   have Ar:=hB.at hw;have hm:=kF gl Ar;(repeat' ((first|(apply AG<;>intro hc<;>try (exfalso;omega))|(apply A0;omega)|(apply AX;omega)|(apply GH;omega)|(apply cK;omega)|(apply CP;omega)|apply F9|apply AU|(refine BH (by assumption) ?_ rfl ?_;omega)|(refine Xb (by assumption) ?_ (λ v hv hb => ?_);omega)|apply AE)<;>conv=>whnf))
   refine pM (i+j) (by omega) (by omega) ?_;(conv=>whnf)
   (repeat' ((first|(apply AX;omega)|apply FN)<;>conv=>whnf))
   refine B3 [] (by (conv=>whnf);exact ⟨rfl,rfl,rfl⟩) (jh (j+1) _ _ (by omega) ⟨by omega,by simpa using r2,r3.set _ (by omega),by omega,?_,?_⟩)
   ·have h1:=tU (v:=(c+(d*w+v))%4294967296) hv
    have h2:=cQ 0 (4294967296^(i+j)) (c+(d*w+v));rw[EC hw,show i+(j+1)=i+j+1 by omega,Nat.pow_succ (4294967296) (i+j)];have h3:4294967296^i*(d*(val (y.take j)+4294967296^j*w))=4294967296^i*(d*val (y.take j))+4294967296^(i+j)*(d*w):=by rw[Nat.pow_add];grind
    rw[h3];generalize 4294967296^(i+j)=P at *;rw[Nat.mul_add P c,Nat.mul_add P]at h2;omega
   ·intro k hk
    rw[List.getElem?_set_ne (by omega)];exact r6 k (by omega)
  ·obtain rfl:j=y.length:=by omega
   clear jh;have hz:=r6 (i+y.length) (by omega);rw[p5 (i+y.length) (by omega) (by omega)]at hz;(repeat' ((first|(apply AG<;>intro hc<;>try (exfalso;omega))|(apply A0;omega)|(apply AX;omega)|(apply EJ;omega)|apply AU|apply AE)<;>conv=>whnf))
   refine pM (i+y.length) (by omega) (by omega) ?_;(conv=>whnf)
   (repeat' ((first|(apply AX;omega)|fail)<;>conv=>whnf))
   refine B3 [] (by (conv=>whnf);exact ⟨rfl,rfl,rfl⟩) (ih (i+1) _ (by omega) ⟨by omega,by simpa using r2,r3.set _ (by omega),?_,?_⟩)
   ·have h1:=tU (v:=c) hz
    rw[Nat.mul_zero,Nat.add_zero]at h1;rw[h1,r5,p4,DG (Nat.le_refl _),EC hd,Nat.add_mul,Nat.mul_assoc]
   ·intro k h1 h2
    rw[List.length_set]at h2;rw[List.getElem?_set_ne (by omega),r6 k (by omega)];exact p5 k (by omega) (by omega)
 ·obtain rfl:i=x.length:=by omega
  clear ih;rw[DG (Nat.le_refl _)]at p4;have hT:=λ q=>GP N O q p3 (by omega)
  rw[p4]at hT;rw[<-p2];(repeat' ((first|(apply AG<;>intro hc<;>try (exfalso;omega))|apply AU|(refine DR (λ_=>rfl) rfl ?_ ?_;(first|rfl|simp))|apply AE|refine AD (hT _) ?_)<;>conv=>whnf))
  exact AY rfl (PN _)
end Go.e9

namespace Go.e9
def zv (neg:Bool) (m:List Nat):Int:=bif neg then -(val m:Int) else (val m:Int)
abbrev rZ (q neg:Bool) (m:List Nat):List AV:=[.bool neg,.sl q (m.map AL)]
abbrev eZ (z:Int):List AV:=rZ false (decide (z<0)) (dg z.natAbs)
theorem E5 (neg:Bool) (m:List Nat):(zv neg m).natAbs=val m:=by cases neg<;>simp [zv]
theorem GK (z:Int):zv (decide (z<0)) (dg z.natAbs)=z:=by
 unfold zv;rw[B5];by_cases h:z<0
 ·simp [h];omega
 ·simp [h];omega
def Sm (n:Nat) (m:List Nat):Prop:=A3 m/\m.length<=n
theorem Sm.dg {n V:Nat} (h:V<4294967296^n):Sm n (dg V):=⟨EA V,bS.2 h⟩
theorem Sm.le {n n':Nat} {m:List Nat} (h:Sm n m) (hn:n<=n'):Sm n' m:=⟨h.1,by have:=h.2;omega⟩
theorem Sm.val {n:Nat} {m:List Nat} (h:Sm n m):val m<4294967296^n:=Nat.lt_of_lt_of_le (FA h.1) (Nat.pow_le_pow_right (by omega) h.2)
theorem Sm.Au {n:Nat} {m:List Nat} (h:Sm n m):Sm n (Go.e9.dg (Go.e9.val m)):=Sm.dg h.val
theorem EW {z:Int} {b:Bool} {n:Nat} (h1:n=z.natAbs) (h2:b=decide (z<0)):AV.agg [.bool b,.sl false ((dg n).map AL)] = .agg (eZ z):=by rw[h1,h2]
theorem DY (z:Int):A6 (.agg (eZ z)):=by
 simp only[A6,CW,and_true,true_and];exact CS _
theorem aL {z:Int} (h:z<0):true=decide (z<0):=by simp [h]
theorem GR {z:Int} (h:0<=z):false=decide (z<0):=by simp;omega
theorem AfP (n:Nat):Sm n []:=⟨jP,Nat.zero_le _⟩
theorem Mo {n d:Nat} (hn:1<=n) (hd:d<4294967296):Sm n [d]:=⟨II hd,hn⟩
theorem AgH (b:Bool):zv b []=0:=by cases b<;>rfl
theorem Sm.low {n V:Nat} {m:List Nat} (h:Sm n m) (hV:V<=Go.e9.val m):Sm n (Go.e9.dg V):=Sm.dg (Nat.lt_of_le_of_lt hV h.val)
theorem Sm.mul {n k:Nat} {a b:List Nat} (ha:Sm n a) (hb:Sm k b) {V:Nat} (hV:V=Go.e9.val a*Go.e9.val b):Sm (n+k) (Go.e9.dg V):=by
 refine Sm.dg ?_;rw[hV,Nat.pow_add];exact Nat.mul_lt_mul_of_le_of_lt (Nat.le_of_lt ha.val) hb.val (Nat.pow_pos (by omega))
theorem Sm.add {n:Nat} {a b:List Nat} (ha:Sm n a) (hb:Sm n b) {V:Nat} (hV:V<=Go.e9.val a+Go.e9.val b):Sm (n+1) (Go.e9.dg V):=by
 refine Sm.dg ?_;have h1:=ha.val;have h2:=hb.val;rw[Nat.pow_succ];omega
theorem J0 (V:Nat):(dg V).length=0↔V=0:=by rw[List.length_eq_zero_iff,vT]
theorem F8 (m:List Nat):zv false m=(val m:Int):=rfl
theorem cG (m:List Nat):zv true m = -(val m:Int):=rfl
def dp (z:Int):Int:=if z<0 then -1 else if 0<z then 1 else 0
theorem Om {z:Int} (h:z<0) : -1=dp z:=by unfold dp;rw[if_pos h]
theorem On {z:Int} (h:0<z):1=dp z:=by unfold dp;rw[if_neg (by omega),if_pos h]
theorem tC {z:Int} (h:z=0):0=dp z:=by unfold dp;rw[if_neg (by omega),if_neg (by omega)]
theorem Agy {n:Nat} (h:n<18446744073709551616):val [n%4294967296,n/4294967296]=n:=(by simp [val];omega)
end Go.e9

namespace Go.e9
open F
attribute [local irreducible] AA AF AM AC CK AR AW BD A7 BW AQ BT CD DB BP A4 BO CE AB A8 AJ pw B4 BK CF CI CN CX CJ BS CM
variable {L:Lib}
set_option maxHeartbeats 4000000
theorem AjQ {d:Nat} (h0:d≠0) (hd:d<4294967296):dg d=[d]:=by
 rw[OM h0,Nat.div_eq_of_lt hd,E8,Nat.mod_eq_of_lt hd]
theorem Amh (N:l7 L) (d:Nat) (q:Bool) (h0:d≠0) (hd:d<4294967296):Ev L 106 [.sl q ([d].map AL)] (.int .i64 (aw d:Int)):=by
 have hT:=λ q=>GP N [d] q (II hd) (by simp)
 rw[show val [d]=d by simp [val],AjQ h0 hd]at hT;have Am:[d].length=1:=rfl;have Bl:[d][(([d].length:Int)-1).toNat]? = some d:=rfl;have hb:=pW (k:=32) hd;refine Ev.x N.ZX rfl rfl ?_;(repeat' ((first|(apply AG<;>intro hc<;>try (exfalso;omega))|(apply CB;omega)|(apply E0;omega)|apply AU|(refine BH (by assumption) ?_ rfl ?_;omega)|apply AE|refine AD (hT _) ?_)<;>conv=>whnf))
 refine G8 (λ_ x=>x) (λ(n x:Nat)=>n+aw x=aw d/\x<=d) (λ n x=>[(3,.int .i64 n),(4,.int .u32 (x:Int))]) (λ_ _=>[]) [] [] 0 d (by (conv=>whnf);exact ⟨rfl,rfl,rfl⟩) ⟨by omega,Nat.le_refl _⟩ ?_;intro n x ⟨p1,p2⟩ ih;by_cases hx:x=0
 ·subst hx
  have:aw 0=0:=by unfold aw;simp
  (repeat' ((first|(apply AG<;>intro hc<;>try (exfalso;omega))|apply AE)<;>conv=>whnf))
  exact DC (by omega)
 ·have h1:aw (x/2)+1=aw x:=by
   by_cases h1:x=1
   ·subst h1;decide
   ·exact lR 1 (x:=x) (by omega)
  (repeat' ((first|(apply AG<;>intro hc<;>try (exfalso;omega))|(apply AX;omega)|apply Ahp|apply AE)<;>conv=>whnf))
  exact BL [] (ih (n+1) (x/2) (by omega) ⟨by omega,by omega⟩)
theorem Agv {V P X lo s d p t:Nat} (h:V+P*p*lo=P*(X*2^s)) (ht:t=lo+d*2^s):V+P*p*(t%4294967296)+P*p*4294967296*(t/4294967296)=P*((X+p*d)*2^s):=by
 have h1:=cQ V (P*p) t;rw[h1,ht];have:P*((X+p*d)*2^s)=P*(X*2^s)+P*p*(d*2^s):=by grind
 rw[this,<-h,Nat.mul_add];omega
theorem Adc (N:l7 L) (l:List Nat) (q:Bool) (n:Nat) (hD:A3 l) (hl:l.length<=549755813888) (hn:n<=65536):Ev L 107 [.sl q (l.map AL),.int .i64 (n:Int)] (.sl false ((dg (val l*2^n)).map AL)):=by
 have hT:=λ q=>GP N l q hD (by omega)
 have d1:=EA (val l);have v1:=B5 (val l);have l1:=E2 hD;have hz:=J0 (val l);refine Ev.x N.KR rfl rfl ?_;by_cases h0:val l=0
 ·rw[h0,Nat.zero_mul,E8]
  (repeat' ((first|(apply AG<;>intro hc<;>try (exfalso;omega))|apply AU|apply AE|refine AD (hT _) ?_)<;>conv=>whnf))
  exact AY rfl (PN [])
 rw[<-v1];generalize dg (val l)=x at *;have ix:n%32<32:=Nat.mod_lt _ (by omega);have e1:(n:Int)/32=((n/32:Nat):Int):=by omega
 have e2:(n:Int)%32=((n%32:Nat):Int):=by omega
 (repeat' ((first|(apply AG<;>intro hc<;>try (exfalso;omega))|(refine dU ?_ ?_ (λ_ => ?_) (λ_ _ => ?_);omega;omega;all_goals try (exfalso;omega))|apply AU|apply AE|refine AD (hT _) ?_)<;>conv=>whnf))
 rw[e1];refine EK (enc:=AL) 0 (n/32) rfl rfl (by omega) ?_;(conv=>whnf)
 skip
 refine GT (λ i _ _=>x.length-i) (λ(i:Nat) (o:List Nat) (c:Nat)=>i<=x.length/\o.length=n/32+i/\A3 o/\c<2^(n%32)/\val o+4294967296^(n/32)*4294967296^i*c=4294967296^(n/32)*(val (x.take i)*2^(n%32))) (λ i o c=>[(10,.int .i64 i),(9,.int .u64 (c:Int)),(8,.row 107069 0 1 0 (n/32+i))]) (λ i o c=>[(107069,107069,.rw 1 (o.map AL))]) [] [] 0 (List.replicate (n/32) 0) 0 (by (conv=>whnf);exact ⟨rfl,rfl,rfl⟩) ⟨by omega,by simp,ON _,Nat.two_pow_pos _,by simp [val,tX]⟩ ?_;intro i o c ⟨p1,p2,p3,p4,p5⟩ ih;have yb:=nR (s:=n%32) (by omega);by_cases hi:i<x.length
 ·obtain ⟨d,hd⟩ : ∃ d,x[i]? = some d:=⟨_,zE hi⟩
  have gl:=d1.at hd;obtain ⟨f1,f2,f3,f4⟩:=iN (s:=n%32) gl (by omega);have hr:=rP (show n%32<=64 by omega) f4;(repeat' ((first|(apply AG<;>intro hc<;>try (exfalso;omega))|(refine gA ?_ (λ_ _ _ => ?_) (λ_ _ _ _ => ?_);omega;all_goals try (exfalso;omega))|(apply CP;omega)|apply AU|(refine BH (by assumption) ?_ rfl ?_;omega)|apply AE)<;>conv=>whnf))
  rw[e2];refine cN (by omega) f4 ?_;(conv=>whnf)
  skip
  refine pF (n%32) (Nat.mul_mod_left _ _) p4 (by omega) ?_;(conv=>whnf)
  have o9:=Agv (d:=d) p5 rfl;have vi:(c+d*2^(n%32))/4294967296<2^(n%32):=by
   rw[Nat.div_lt_iff_lt_mul (by omega)];have:=Nat.mul_le_mul_right (2^(n%32)) (show d<=4294967295 by omega)
   omega
  generalize c+d*2^(n%32)=t at *;(repeat' ((first|apply F9|apply EL)<;>conv=>whnf))
  refine E6 (enc:=AL) (t%4294967296) rfl p2.symm rfl (by omega) (by omega) ?_;(conv=>whnf)
  (repeat' ((first|(apply AX;omega)|apply FN)<;>conv=>whnf))
  rw[show (o++[t%4294967296]).length=n/32+(i+1) by simp [p2];omega];refine B3 [(107069,107091)] (by (conv=>whnf);exact ⟨rfl,rfl,rfl⟩) (ih (i+1) (o++[t%4294967296]) (t/4294967296) (by omega) ⟨by omega,by simp;omega,p3.append (II (by omega)),vi,?_⟩);rw[bC,p2,EC hd,Nat.pow_add,Nat.pow_succ,<-Nat.mul_assoc];exact o9
 ·obtain rfl:i=x.length:=by omega
  clear ih;have og:c<4294967296:=by omega
  have hOD:A3 (o++[c]):=p3.append (II og);have Hr:val (o++[c])=val x*2^n:=by
   rw[bC,p2,Nat.pow_add,p5,DG (Nat.le_refl _)];have e3:2^n=4294967296^(n/32)*2^(n%32):=by
    rw[show 4294967296=2^32 from rfl,<-Nat.pow_mul,<-Nat.pow_add];congr 1;omega
   rw[e3];grind
  have Hq:(o++[c]).length=n/32+x.length+1:=by simp [p2]
  (repeat' ((first|(apply AG<;>intro hc<;>try (exfalso;omega))|(apply EJ;omega)|apply AU|apply EL|apply AE)<;>conv=>whnf))
  refine E6 (enc:=AL) c rfl p2.symm rfl (by omega) (by omega) ?_;(conv=>whnf)
  rw[<-Hr,Hq];generalize o++[c]=O at *;rw[<-Hq];clear p3 p4 p5 Hr;refine FY 1000 N.IO rfl rfl ?_;(repeat' (apply AE<;>conv=>whnf))
  refine B6 (λ n=>n) (λ(n:Nat)=>n<=(O).length /\ ∀ i,n<=i->i<(O).length->(O)[i]? = some 0) (λ n=>[(3,.int .i64 n)]) (λ_=>[]) [] [] (O).length (by (conv=>whnf);exact ⟨rfl,rfl,rfl⟩) ⟨Nat.le_refl _,λ i h1 h2=>by omega⟩ ?_;intro n ⟨p1,p2⟩ ih;rcases n with _|n
  ·(repeat' ((first|(apply AG<;>intro hc<;>try (exfalso;omega))|apply AE)<;>conv=>whnf))
   refine HU 0 (by omega) (by omega) ?_;(conv=>whnf)
   have gf:=GO (l:=O) (by assumption) p1 p2 (Or.inl rfl);have z7:(List.take 0 O).length<=(O).length:=by rw[List.length_take];omega
   clear ih p2;refine pK (enc:=AL) (by omega) ?_;(conv=>whnf)
   rw[List.drop_zero,Nat.sub_zero];generalize Cr:List.take 0 O=T0 at *;refine dP (enc:=AL) (λ_=>rfl) (by omega) (by omega) ?_;(conv=>whnf)
   refine ⟨rfl,_,rfl,?_⟩;(conv=>whnf)
   (refine DR (enc:=AL) (λ_=>rfl) rfl rfl ?_;(conv=>whnf);exact AY (by rw[<-gf]) (PN _))
  ·have e1:((n+1:Nat):Int)-1=n:=by omega
   (repeat' ((first|(apply AG<;>intro hc<;>try (exfalso;omega))|(apply A0;omega)|(apply CB;omega)|(refine fZ (by assumption) ?_ (λ v hv hb => ?_);omega)|apply AE)<;>conv=>whnf))
   ·rw[e1]
    exact BL [] (ih n (by omega) ⟨by omega,λ i h1 h2=>by
     by_cases h:i=n
     ·subst h
      rw[e1,Int.toNat_natCast]at hv;rw[hv];congr 1;omega
     ·exact p2 i (by omega) h2⟩)
   ·refine HU (n+1) (by omega) (by omega) ?_
    (conv=>whnf)
    rw[e1,Int.toNat_natCast]at hv;have gf:=GO (l:=O) (by assumption) p1 p2 (Or.inr ⟨_,hv,by omega⟩);have z7:(List.take (n+1) O).length<=(O).length:=by rw[List.length_take];omega
    clear ih p2 hv;(rw[Vs (l:=O)];rotate_left;exact rfl;exact rfl);(conv=>whnf)
    refine pK (enc:=AL) (by omega) ?_;(conv=>whnf)
    rw[List.drop_zero,Nat.sub_zero];generalize Cr:List.take (n+1) O=T0 at *;refine dP (enc:=AL) (λ_=>rfl) (by omega) (by omega) ?_;(conv=>whnf)
    refine ⟨rfl,_,rfl,?_⟩;(conv=>whnf)
    (refine DR (enc:=AL) (λ_=>rfl) rfl rfl ?_;(conv=>whnf);exact AY (by rw[<-gf]) (PN _))
theorem AqB {l:List Nat} (hD:A3 l) (k:Nat) (hk:k<=l.length):val (l.drop k)=val l/4294967296^k:=by
 have h1:=S6 l k hk;have h2:=FA (hD.take k);rw[List.length_take,Nat.min_eq_left hk]at h2;rw[h1,Nat.add_mul_div_left _ _ (Nat.pow_pos (by omega)),Nat.div_eq_of_lt h2,Nat.zero_add]
theorem Ao5 (n:Nat):2^n=4294967296^(n/32)*2^(n%32):=by
 rw[show 4294967296=2^32 from rfl,<-Nat.pow_mul,<-Nat.pow_add];congr 1;omega
theorem Ak1 {d e V r:Nat} (hd:d<4294967296) (hr:r<32):(d+e*4294967296)/2^r%4294967296+4294967296*((e+4294967296*V)/2^r)=(d+4294967296*(e+4294967296*V))/2^r:=by
 obtain ⟨f1,f2,f3⟩:=Aew (V:=e) hd (show r<=32 by omega);rw[yZ (d:=d) (V:=e+4294967296*V) (by omega),Aex (d:=e) (V:=V) (by omega)];have h1:=yZ (d:=d) (V:=e) (s:=r) (by omega);rw[show d+e*4294967296=d+4294967296*e by omega,h1];clear h1;generalize d/2^r=A at *;generalize e%2^r*2^(32-r)=Q at *;generalize e/2^r=Z at *;generalize 2^(32-r)=P at *;omega
theorem Amk (N:l7 L) (l:List Nat) (q:Bool) (n:Nat) (hD:A3 l) (hl:l.length<=549755813888) (hn:1<=n/\n<=65536):Ev L 107 [.sl q (l.map AL),.int .i64 (-(n:Int))] (.sl false ((dg (val l/2^n)).map AL)):=by
 have hT:=λ q=>GP N l q hD (by omega)
 have d1:=EA (val l);have v1:=B5 (val l);have l1:=E2 hD;have hz:=J0 (val l);refine Ev.x N.KR rfl rfl ?_;by_cases h0:val l=0
 ·rw[h0,Nat.zero_div,E8]
  (repeat' ((first|(apply AG<;>intro hc<;>try (exfalso;omega))|apply AU|apply AE|refine AD (hT _) ?_)<;>conv=>whnf))
  exact AY rfl (PN [])
 rw[<-v1];generalize dg (val l)=x at *;have Sn:n%32<32:=Nat.mod_lt _ (by omega);have e1:(- -(n:Int))/32=((n/32:Nat):Int):=by omega
 have e2:(- -(n:Int))%32=((n%32:Nat):Int):=by omega
 by_cases AFh:32*x.length<n
 ·have v9:val x/2^n=0:=by
   refine Nat.div_eq_of_lt (Nat.lt_of_lt_of_le (FA d1) ?_);rw[show 4294967296=2^32 from rfl,<-Nat.pow_mul];exact Nat.pow_le_pow_right (by omega) (by omega)
  rw[v9,E8];(repeat' ((first|(apply AG<;>intro hc<;>try (exfalso;omega))|(apply E0;omega)|apply AU|apply AE|refine AD (hT _) ?_)<;>conv=>whnf))
  exact AY rfl (PN [])
 have hk:n/32<=x.length:=by omega
 have hvd:=AqB d1 _ hk;(repeat' ((first|(apply AG<;>intro hc<;>try (exfalso;omega))|(apply E0;omega)|(refine dU ?_ ?_ (λ_ => ?_) (λ_ _ => ?_);omega;omega;all_goals try (exfalso;omega))|(apply CK.neg;omega)|apply AU|apply AE|refine AD (hT _) ?_)<;>conv=>whnf))
 rw[e1];refine G8 (λ i _=>x.length-i) (λ(i:Nat) (o:List Nat)=>n/32<=i/\i<=x.length/\o.length=i-n/32/\A3 o/\val o+4294967296^(i-n/32)*(val (x.drop i)/2^(n%32))=val (x.drop (n/32))/2^(n%32)) (λ i o=>[(6,.int .i64 i),(5,.row 107005 0 1 0 o.length)]) (λ i o=>[(107005,107005,.rw 1 (o.map AL))]) [] [] (n/32) [] (by (conv=>whnf);exact ⟨rfl,rfl,rfl⟩) ⟨Nat.le_refl _,hk,by simp,jP,by simp [val]⟩ ?_;intro i o ⟨p0,p1,p2,p3,p5⟩ ih;by_cases hi:i<x.length
 ·obtain ⟨d,hd⟩ : ∃ d,x[i]? = some d:=⟨_,zE hi⟩
  have gl:=d1.at hd;have g1:=HT hd;have g2:=iS x (i+1);have g3:=Ak1 (e:=x.getD (i+1) 0) (V:=val (x.drop (i+1+1))) gl Sn;rw[<-g2,<-g1]at g3;have key : ∀ t,t=d+x.getD (i+1) 0*4294967296->val (o++[t/2^(n%32)%4294967296])+4294967296^(i+1-n/32)*(val (x.drop (i+1))/2^(n%32))=val (x.drop (n/32))/2^(n%32):=λ t ht=>by
   rw[bC,p2,show i+1-n/32=(i-n/32)+1 by omega,Nat.pow_succ,ht,Nat.add_assoc,Nat.mul_assoc,<-Nat.mul_add,g3];exact p5
  by_cases hy:i+1<x.length
  ·obtain ⟨e,he⟩ : ∃ e,x[i+1]? = some e:=⟨_,zE hy⟩
   have Rg:=d1.at he;have kt:x[((i:Int)+1).toNat]? = some e:=by rw[show ((i:Int)+1).toNat=i+1 by omega];exact he
   rw[G2 he]at key;(repeat' ((first|(apply AG<;>intro hc<;>try (exfalso;omega))|(apply AX;omega)|(apply bJ;omega)|(apply CP;omega)|apply AU|(refine BH (by assumption) ?_ rfl ?_;omega)|apply AE)<;>conv=>whnf))
   refine pF 32 (Nat.mul_mod_left _ _) (by omega) (by omega) ?_;(conv=>whnf)
   (repeat' ((first|(refine gA ?_ (λ_ _ _ => ?_) (λ_ _ _ _ => ?_);omega;all_goals try (exfalso;omega))|(apply CP;omega))<;>conv=>whnf))
   rw[e2];refine cM (n:=n%32) (by show n%32<=64;omega) ?_;(conv=>whnf)
   (repeat' ((first|apply F9|apply EL)<;>conv=>whnf))
   refine E6 (enc:=AL) ((d+e*4294967296)/2^(n%32)%4294967296) rfl rfl rfl (by omega) (by omega) ?_;(conv=>whnf)
   (repeat' ((first|(apply AX;omega)|fail)<;>conv=>whnf))
   exact BL [(107005,107064)] (ih (i+1) (o++[(d+e*4294967296)/2^(n%32)%4294967296]) (by omega) ⟨by omega,by omega,by simp;omega,p3.append (II (by omega)),key (d+e*4294967296) rfl⟩)
  ·rw[<-getD_none (show x.length<=i+1 by omega),Nat.zero_mul]at key
   (repeat' ((first|(apply AG<;>intro hc<;>try (exfalso;omega))|(apply AX;omega)|(refine gA ?_ (λ_ _ _ => ?_) (λ_ _ _ _ => ?_);omega;all_goals try (exfalso;omega))|(apply CP;omega)|apply AU|(refine BH (by assumption) ?_ rfl ?_;omega)|apply AE)<;>conv=>whnf))
   rw[e2];refine cM (n:=n%32) (by show n%32<=64;omega) ?_;(conv=>whnf)
   (repeat' ((first|apply F9|apply EL)<;>conv=>whnf))
   refine E6 (enc:=AL) (d/2^(n%32)%4294967296) rfl rfl rfl (by omega) (by omega) ?_;(conv=>whnf)
   (repeat' ((first|(apply AX;omega)|fail)<;>conv=>whnf))
   exact BL [(107005,107064)] (ih (i+1) (o++[d/2^(n%32)%4294967296]) (by omega) ⟨by omega,by omega,by simp;omega,p3.append (II (by omega)),key d rfl⟩)
 ·obtain rfl:i=x.length:=by omega
  clear ih;rw[List.drop_of_length_le (Nat.le_refl _),OB,Nat.zero_div,Nat.mul_zero,Nat.add_zero,hvd,Nat.div_div_eq_div_mul,<-Ao5]at p5;have Ge:=λ q=>GP N o q p3 (by omega)
  rw[p5]at Ge;(repeat' ((first|(apply AG<;>intro hc<;>try (exfalso;omega))|apply AU|(refine DR (λ_=>rfl) rfl ?_ ?_;(first|rfl|simp))|apply AE|refine AD (Ge _) ?_)<;>conv=>whnf))
  exact AY rfl (PN _)
end Go.e9
