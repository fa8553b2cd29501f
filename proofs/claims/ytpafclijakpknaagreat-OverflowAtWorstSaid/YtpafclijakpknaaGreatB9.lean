/-
  The references of natural numbers (ref01): lengths, shifts, division by a digit.
-/
import Derived.Test.YtpafclijakpknaaGreatB8
import Derived.Test.YtpafclijakpknaaGreatB1
import Derived.Test.YtpafclijakpknaaGreatB7
set_option linter.unusedSimpArgs false
set_option linter.unusedVariables false
set_option linter.unnecessarySimpa false
namespace Go.b8
open F
attribute [local irreducible] AJ A3 BU AU FE BR C1 CK DS DE FA G7 DR B2 EH E5 AL CQ BC pw FM E2 F7 G8 GX EG FK EE FZ
variable {L:Lib}
set_option maxHeartbeats 4000000
theorem Akp {d:Nat} (h0:d≠0) (hd:d<4294967296):dg d=[d]:=by
 rw[OR h0,Nat.div_eq_of_lt hd,JL,Nat.mod_eq_of_lt hd]
theorem Amx (N:a6 L) (d:Nat) (q:Bool) (h0:d≠0) (hd:d<4294967296):Ev L 106 [.sl q ([d].map BF)] (.int .i64 (v5 d:Int)):=by
 have hT:=λ q=>K3 N [d] q (MS hd) (by simp)
 rw[show val [d]=d by simp [val],Akp h0 hd]at hT;have zl:[d].length=1:=rfl;have uz:[d][(([d].length:Int)-1).toNat]? = some d:=rfl;have hb:=nI (k:=32) hd;refine Ev.x N.UH rfl rfl ?_;(repeat' ((first|(apply A9<;>intro hc<;>try omega)|(apply DQ;omega)|(apply I8;omega)|apply BT|(refine CN (by assumption) ?_ rfl ?_;omega)|apply A2|refine AP (hT _) ?_)<;>conv=>whnf))
 refine IX (λ_ x=>x) (λ(n x:Nat)=>n+v5 x=v5 d/\x<=d) (λ n x=>[(3,.int .i64 n),(4,.int .u32 (x:Int))]) (λ_ _=>[]) 0 d ⟨by omega,Nat.le_refl _⟩ ?_;intro n x ⟨p1,p2⟩ ih;by_cases hx:x=0
 ·subst hx
  have:v5 0=0:=by unfold v5;simp
  (repeat' ((first|(apply A9<;>intro hc<;>try omega)|apply A2)<;>conv=>whnf))
  exact ET (by omega)
 ·have h1:v5 (x/2)+1=v5 x:=by
   by_cases h1:x=1
   ·subst h1;decide
   ·exact iX 1 (x:=x) (by omega)
  (repeat' ((first|(apply A9<;>intro hc<;>try omega)|(apply BG;omega)|apply Aik|apply A2)<;>conv=>whnf))
  exact CZ [] (ih (n+1) (x/2) (by omega) ⟨by omega,by omega⟩)
theorem AgT {V P X lo s d p t:Nat} (h:V+P*p*lo=P*(X*2^s)) (ht:t=lo+d*2^s):V+P*p*(t%4294967296)+P*p*4294967296*(t/4294967296)=P*((X+p*d)*2^s):=by
 have h1:=YD V (P*p) t;rw[h1,ht];have:P*((X+p*d)*2^s)=P*(X*2^s)+P*p*(d*2^s):=by grind
 rw[this,<-h,Nat.mul_add];omega
theorem AcZ (N:a6 L) (l:List Nat) (q:Bool) (n:Nat) (hD:B9 l) (hl:l.length<=549755813888) (hn:n<=65536):Ev L 107 [.sl q (l.map BF),.int .i64 (n:Int)] (.sl false ((dg (val l*2^n)).map BF)):=by
 have hT:=λ q=>K3 N l q hD (by omega)
 have d1:=HW (val l);have v1:=EA (val l);have l1:=JB hD;have hz:=NV (val l);refine Ev.x N.N4 rfl rfl ?_;by_cases h0:val l=0
 ·rw[h0,Nat.zero_mul,JL]
  (repeat' ((first|(apply A9<;>intro hc<;>try omega)|apply BT|apply A2|refine AP (hT _) ?_)<;>conv=>whnf))
  exact BV rfl (O4 [])
 rw[<-v1];generalize dg (val l)=x at *;have fb:n%32<32:=Nat.mod_lt _ (by omega);have e1:(n:Int)/32=((n/32:Nat):Int):=by omega
 have e2:(n:Int)%32=((n%32:Nat):Int):=by omega
 (repeat' ((first|(apply A9<;>intro hc<;>try omega)|(refine PT ?_ ?_ (λ_ => ?_) (λ_ _ => ?_);omega;omega;all_goals try omega)|apply BT|apply A2|refine AP (hT _) ?_)<;>conv=>whnf))
 rw[e1];refine GJ (enc:=BF) 0 (n/32) rfl rfl (by omega) ?_;(conv=>whnf)
 skip
 refine LD (λ i _ _=>x.length-i) (λ(i:Nat) (o:List Nat) (c:Nat)=>i<=x.length/\o.length=n/32+i/\B9 o/\c<2^(n%32)/\val o+4294967296^(n/32)*4294967296^i*c=4294967296^(n/32)*(val (x.take i)*2^(n%32))) (λ i o c=>[(10,.int .i64 i),(9,.int .u64 (c:Int)),(8,.row 107069 0 1 0 (n/32+i))]) (λ i o c=>[(107069,107069,.rw 1 (o.map BF))]) 0 (List.replicate (n/32) 0) 0 ⟨by omega,by simp,OS _,Nat.two_pow_pos _,by simp [val,rU]⟩ ?_;intro i o c ⟨p1,p2,p3,p4,p5⟩ ih;have xi:=kX (s:=n%32) (by omega);by_cases hi:i<x.length
 ·obtain ⟨d,hd⟩ : ∃ d,x[i]? = some d:=⟨_,zE hi⟩
  have br:=d1.at hd;obtain ⟨f1,f2,f3,f4⟩:=cX (s:=n%32) br (by omega);have hr:=pU (show n%32<=64 by omega) f4;(repeat' ((first|(apply A9<;>intro hc<;>try omega)|(refine WW ?_ (λ_ _ _ => ?_) (λ_ _ _ _ => ?_);omega;all_goals try omega)|(apply EM;omega)|apply BT|(refine CN (by assumption) ?_ rfl ?_;omega)|apply A2)<;>conv=>whnf))
  rw[e2];refine YA (by omega) f4 ?_;(conv=>whnf)
  skip
  refine mR (n%32) (Nat.mul_mod_left _ _) p4 (by omega) ?_;(conv=>whnf)
  have j8:=AgT (d:=d) p5 rfl;have yo:(c+d*2^(n%32))/4294967296<2^(n%32):=by
   rw[Nat.div_lt_iff_lt_mul (by omega)];have:=zR (2^(n%32)) (show d<=4294967295 by omega)
   omega
  generalize c+d*2^(n%32)=t at *;(repeat' ((first|apply KQ|apply GY)<;>conv=>whnf))
  refine H8 (enc:=BF) (t%4294967296) rfl p2.symm rfl (by omega) (by omega) ?_;(conv=>whnf)
  (repeat' ((first|(apply BG;omega)|apply J2)<;>conv=>whnf))
  rw[show (o++[t%4294967296]).length=n/32+(i+1) by simp [p2];omega];refine DP [(107069,107091)] (by (conv=>whnf);exact ⟨rfl,rfl,rfl⟩) (ih (i+1) (o++[t%4294967296]) (t/4294967296) (by omega) ⟨by omega,by simp;omega,p3.append (MS (by omega)),yo,?_⟩);rw[WD,p2,H5 hd,Nat.pow_add,Nat.pow_succ,<-Nat.mul_assoc];exact j8
 ·obtain rfl:i=x.length:=by omega
  clear ih;have qf:c<4294967296:=by omega
  have hOD:B9 (o++[c]):=p3.append (MS qf);have Kc:val (o++[c])=val x*2^n:=by
   rw[WD,p2,Nat.pow_add,p5,GV (Nat.le_refl _)];have e3:2^n=4294967296^(n/32)*2^(n%32):=by
    rw[show 4294967296=2^32 from rfl,<-Nat.pow_mul,<-Nat.pow_add];congr 1;omega
   rw[e3];grind
  have Kb:(o++[c]).length=n/32+x.length+1:=by simp [p2]
  (repeat' ((first|(apply A9<;>intro hc<;>try omega)|(apply II;omega)|apply BT|apply GY|apply A2)<;>conv=>whnf))
  refine H8 (enc:=BF) c rfl p2.symm rfl (by omega) (by omega) ?_;(conv=>whnf)
  rw[<-Kc,Kb];generalize o++[c]=O at *;rw[<-Kb];clear p3 p4 p5 Kc;refine LE 1000 N.M3 rfl rfl ?_;(repeat' (apply A2<;>conv=>whnf))
  refine G5 (λ n=>n) (λ(n:Nat)=>n<=(O).length /\ ∀ i,n<=i->i<(O).length->(O)[i]? = some 0) (λ n=>[(3,.int .i64 n)]) (λ_=>[]) (O).length ⟨Nat.le_refl _,λ i h1 h2=>by omega⟩ ?_;intro n ⟨p1,p2⟩ ih;rcases n with _|n
  ·(repeat' ((first|(apply A9<;>intro hc<;>try omega)|apply A2)<;>conv=>whnf))
   refine L6 0 (by omega) (by omega) ?_;(conv=>whnf)
   have eo:=LH (l:=O) (by assumption) p1 p2 (Or.inl rfl);have o6:(List.take 0 O).length<=(O).length:=by rw[List.length_take];omega
   clear ih p2;refine nB (enc:=BF) (by omega) ?_;(conv=>whnf)
   rw[List.drop_zero,Nat.sub_zero];generalize Ht:List.take 0 O=T0 at *;refine ZB (enc:=BF) (λ_=>rfl) (by omega) (by omega) ?_;(conv=>whnf)
   refine ⟨rfl,_,rfl,?_⟩;(conv=>whnf)
   (refine FO (enc:=BF) (λ_=>rfl) rfl rfl ?_;(conv=>whnf);exact BV (by rw[<-eo]) (O4 _))
  ·have e1:((n+1:Nat):Int)-1=n:=by omega
   (repeat' ((first|(apply A9<;>intro hc<;>try omega)|(apply B5;omega)|(apply DQ;omega)|(refine aU (by assumption) ?_ (λ v hv hb => ?_);omega)|apply A2)<;>conv=>whnf))
   ·rw[e1]
    exact CZ [] (ih n (by omega) ⟨by omega,λ i h1 h2=>by
     by_cases h:i=n
     ·subst h
      rw[e1,Int.toNat_natCast]at hv;rw[hv];congr 1;omega
     ·exact p2 i (by omega) h2⟩)
   ·refine L6 (n+1) (by omega) (by omega) ?_
    (conv=>whnf)
    rw[e1,Int.toNat_natCast]at hv;have eo:=LH (l:=O) (by assumption) p1 p2 (Or.inr ⟨_,hv,by omega⟩);have o6:(List.take (n+1) O).length<=(O).length:=by rw[List.length_take];omega
    clear ih p2 hv;(rw[Xz (l:=O)];rotate_left;exact rfl;exact rfl);(conv=>whnf)
    refine nB (enc:=BF) (by omega) ?_;(conv=>whnf)
    rw[List.drop_zero,Nat.sub_zero];generalize Ht:List.take (n+1) O=T0 at *;refine ZB (enc:=BF) (λ_=>rfl) (by omega) (by omega) ?_;(conv=>whnf)
    refine ⟨rfl,_,rfl,?_⟩;(conv=>whnf)
    (refine FO (enc:=BF) (λ_=>rfl) rfl rfl ?_;(conv=>whnf);exact BV (by rw[<-eo]) (O4 _))
theorem Art {l:List Nat} (hD:B9 l) (k:Nat) (hk:k<=l.length):val (l.drop k)=val l/4294967296^k:=by
 have h1:=PO l k hk;have h2:=JM (hD.take k);rw[List.length_take,Nat.min_eq_left hk]at h2;rw[h1,Nat.add_mul_div_left _ _ (Nat.pow_pos (by omega)),Nat.div_eq_of_lt h2,Nat.zero_add]
theorem ApB (n:Nat):2^n=4294967296^(n/32)*2^(n%32):=by
 rw[show 4294967296=2^32 from rfl,<-Nat.pow_mul,<-Nat.pow_add];congr 1;omega
theorem Alh {d e V r:Nat} (hd:d<4294967296) (hr:r<32):(d+e*4294967296)/2^r%4294967296+4294967296*((e+4294967296*V)/2^r)=(d+4294967296*(e+4294967296*V))/2^r:=by
 obtain ⟨f1,f2,f3⟩:=Aeu (V:=e) hd (show r<=32 by omega);rw[xD (d:=d) (V:=e+4294967296*V) (by omega),Aev (d:=e) (V:=V) (by omega)];have h1:=xD (d:=d) (V:=e) (s:=r) (by omega);rw[show d+e*4294967296=d+4294967296*e by omega,h1];clear h1;generalize d/2^r=A at *;generalize e%2^r*2^(32-r)=Q at *;generalize e/2^r=Z at *;generalize 2^(32-r)=P at *;omega
theorem AmA (N:a6 L) (l:List Nat) (q:Bool) (n:Nat) (hD:B9 l) (hl:l.length<=549755813888) (hn:1<=n/\n<=65536):Ev L 107 [.sl q (l.map BF),.int .i64 (-(n:Int))] (.sl false ((dg (val l/2^n)).map BF)):=by
 have hT:=λ q=>K3 N l q hD (by omega)
 have d1:=HW (val l);have v1:=EA (val l);have l1:=JB hD;have hz:=NV (val l);refine Ev.x N.N4 rfl rfl ?_;by_cases h0:val l=0
 ·rw[h0,Nat.zero_div,JL]
  (repeat' ((first|(apply A9<;>intro hc<;>try omega)|apply BT|apply A2|refine AP (hT _) ?_)<;>conv=>whnf))
  exact BV rfl (O4 [])
 rw[<-v1];generalize dg (val l)=x at *;have Wg:n%32<32:=Nat.mod_lt _ (by omega);have e1:(- -(n:Int))/32=((n/32:Nat):Int):=by omega
 have e2:(- -(n:Int))%32=((n%32:Nat):Int):=by omega
 by_cases AI2:32*x.length<n
 ·have l7:val x/2^n=0:=by
   refine Nat.div_eq_of_lt (Nat.lt_of_lt_of_le (JM d1) ?_);rw[show 4294967296=2^32 from rfl,<-Nat.pow_mul];exact Nat.pow_le_pow_right (by omega) (by omega)
  rw[l7,JL];(repeat' ((first|(apply A9<;>intro hc<;>try omega)|(apply I8;omega)|apply BT|apply A2|refine AP (hT _) ?_)<;>conv=>whnf))
  exact BV rfl (O4 [])
 have hk:n/32<=x.length:=by omega
 have hvd:=Art d1 _ hk;(repeat' ((first|(apply A9<;>intro hc<;>try omega)|(apply I8;omega)|(refine PT ?_ ?_ (λ_ => ?_) (λ_ _ => ?_);omega;omega;all_goals try omega)|(apply FE.neg;omega)|apply BT|apply A2|refine AP (hT _) ?_)<;>conv=>whnf))
 rw[e1];refine IX (λ i _=>x.length-i) (λ(i:Nat) (o:List Nat)=>n/32<=i/\i<=x.length/\o.length=i-n/32/\B9 o/\val o+4294967296^(i-n/32)*(val (x.drop i)/2^(n%32))=val (x.drop (n/32))/2^(n%32)) (λ i o=>[(6,.int .i64 i),(5,.row 107005 0 1 0 o.length)]) (λ i o=>[(107005,107005,.rw 1 (o.map BF))]) (n/32) [] ⟨Nat.le_refl _,hk,by simp,eH,by simp [val]⟩ ?_;intro i o ⟨p0,p1,p2,p3,p5⟩ ih;by_cases hi:i<x.length
 ·obtain ⟨d,hd⟩ : ∃ d,x[i]? = some d:=⟨_,zE hi⟩
  have br:=d1.at hd;have g1:=MN hd;have g2:=dF x (i+1);have g3:=Alh (e:=x.getD (i+1) 0) (V:=val (x.drop (i+1+1))) br Wg;rw[<-g2,<-g1]at g3;have key : ∀ t,t=d+x.getD (i+1) 0*4294967296->val (o++[t/2^(n%32)%4294967296])+4294967296^(i+1-n/32)*(val (x.drop (i+1))/2^(n%32))=val (x.drop (n/32))/2^(n%32):=λ t ht=>by
   rw[WD,p2,show i+1-n/32=(i-n/32)+1 by omega,Nat.pow_succ,ht,Nat.add_assoc,Nat.mul_assoc,<-Nat.mul_add,g3];exact p5
  by_cases hy:i+1<x.length
  ·obtain ⟨e,he⟩ : ∃ e,x[i+1]? = some e:=⟨_,zE hy⟩
   have Tx:=d1.at he;have jy:x[((i:Int)+1).toNat]? = some e:=by rw[show ((i:Int)+1).toNat=i+1 by omega];exact he
   rw[LY he]at key;(repeat' ((first|(apply A9<;>intro hc<;>try omega)|(apply BG;omega)|(apply WU;omega)|(apply EM;omega)|apply BT|(refine CN (by assumption) ?_ rfl ?_;omega)|apply A2)<;>conv=>whnf))
   refine mR 32 (Nat.mul_mod_left _ _) (by omega) (by omega) ?_;(conv=>whnf)
   (repeat' ((first|(refine WW ?_ (λ_ _ _ => ?_) (λ_ _ _ _ => ?_);omega;all_goals try omega)|(apply EM;omega))<;>conv=>whnf))
   rw[e2];refine X9 (n:=n%32) (by show n%32<=64;omega) ?_;(conv=>whnf)
   (repeat' ((first|apply KQ|apply GY)<;>conv=>whnf))
   refine H8 (enc:=BF) ((d+e*4294967296)/2^(n%32)%4294967296) rfl rfl rfl (by omega) (by omega) ?_;(conv=>whnf)
   (repeat' ((first|(apply BG;omega)|fail)<;>conv=>whnf))
   exact CZ [(107005,107064)] (ih (i+1) (o++[(d+e*4294967296)/2^(n%32)%4294967296]) (by omega) ⟨by omega,by omega,by simp;omega,p3.append (MS (by omega)),key (d+e*4294967296) rfl⟩)
  ·rw[<-Z5 (show x.length<=i+1 by omega),Nat.zero_mul]at key
   (repeat' ((first|(apply A9<;>intro hc<;>try omega)|(apply BG;omega)|(refine WW ?_ (λ_ _ _ => ?_) (λ_ _ _ _ => ?_);omega;all_goals try omega)|(apply EM;omega)|apply BT|(refine CN (by assumption) ?_ rfl ?_;omega)|apply A2)<;>conv=>whnf))
   rw[e2];refine X9 (n:=n%32) (by show n%32<=64;omega) ?_;(conv=>whnf)
   (repeat' ((first|apply KQ|apply GY)<;>conv=>whnf))
   refine H8 (enc:=BF) (d/2^(n%32)%4294967296) rfl rfl rfl (by omega) (by omega) ?_;(conv=>whnf)
   (repeat' ((first|(apply BG;omega)|fail)<;>conv=>whnf))
   exact CZ [(107005,107064)] (ih (i+1) (o++[d/2^(n%32)%4294967296]) (by omega) ⟨by omega,by omega,by simp;omega,p3.append (MS (by omega)),key d rfl⟩)
 ·obtain rfl:i=x.length:=by omega
  clear ih;rw[List.drop_of_length_le (Nat.le_refl _),OH,Nat.zero_div,Nat.mul_zero,Nat.add_zero,hvd,Nat.div_div_eq_div_mul,<-ApB]at p5;have Ny:=λ q=>K3 N o q p3 (by omega)
  rw[p5]at Ny;(repeat' ((first|(apply A9<;>intro hc<;>try omega)|apply BT|(refine FO (λ_=>rfl) rfl ?_ ?_;(first|rfl|simp))|apply A2|refine AP (Ny _) ?_)<;>conv=>whnf))
  exact BV rfl (O4 _)
end Go.b8
namespace Go.b8
open F
attribute [local irreducible] AJ A3 BU AU FE BR C1 CK DS DE FA G7 DR B2 EH E5 AL CQ BC pw FM E2 F7 G8 GX EG FK EE FZ
set_option maxHeartbeats 4000000
variable {L:Lib}
theorem AqF {V R y d t Q:Nat} (h:Q*y+R=V) (ht:t=R*4294967296+d):(t/y+4294967296*Q)*y+t%y=d+4294967296*V:=by
 have:=Nat.div_add_mod t y
 rw[<-h,Nat.add_mul];have e:t/y*y=y*(t/y):=Nat.mul_comm _ _;grind
theorem AmB (N:a6 L) (x:List Nat) (Y:Nat) (q:Bool) (d1:B9 x) (hx:x.length<=549755813888) (h0:Y≠0) (hY:Y<4294967296):Ev L 108 [.sl q (x.map BF),.int .u32 (Y:Int)] (.g8 [.sl false ((dg (val x/Y)).map BF),.int .u32 ((val x%Y:Nat):Int)]):=by
 refine Ev.x N.UM rfl rfl ?_;(repeat' ((first|apply BT|apply A2)<;>conv=>whnf))
 refine GJ (enc:=BF) 0 x.length rfl (by omega) (by omega) ?_;(conv=>whnf)
 (repeat' ((first|(apply DQ;omega)|apply BT)<;>conv=>whnf))
 refine LD (λ n _ _=>n) (λ(n:Nat) (o:List Nat) (r:Nat)=>n<=x.length/\o.length=x.length/\B9 o/\r<Y/\val (o.drop n)*Y+r=val (x.drop n)) (λ n o r=>[(7,.int .u64 (r:Int)),(8,.int .i64 ((n:Int)-1))]) (λ n o r=>[(11,11,.rw 1 (o.map BF))]) x.length (List.replicate x.length 0) 0 ⟨by omega,by simp,OS _,by omega,by rw[List.drop_of_length_le (Nat.le_refl _),List.drop_of_length_le (by simp)];simp [val]⟩ ?_;intro n o r ⟨p1,p2,p3,p4,p5⟩ ih;rcases n with _|n
 ·rw[List.drop_zero,List.drop_zero]at p5
  have hq:val x/Y=val o/\val x%Y=r:=by
   rw[<-p5];have e1:(val o*Y+r)/Y=val o:=by
    rw[Nat.mul_comm,Nat.mul_add_div (by omega),Nat.div_eq_of_lt p4,Nat.add_zero]
   have e2:(val o*Y+r)%Y=r:=by
    rw[Nat.mul_comm,Nat.mul_add_mod,Nat.mod_eq_of_lt p4]
   exact ⟨e1,e2⟩
  have hT:=λ q=>K3 N o q p3 (by omega)
  rw[hq.1,hq.2,<-p2];clear ih hq p5;(repeat' ((first|(apply A9<;>intro hc<;>try omega)|(apply II;omega)|(refine FO (λ_=>rfl) rfl ?_ ?_;(first|rfl|simp))|apply A2|refine AP (hT _) ?_)<;>conv=>whnf))
  refine BV rfl ?_;simp only[B3,EC,and_true,true_and];exact GC _
 ·have e1:((n+1:Nat):Int)-1=n:=by omega
  rw[e1];obtain ⟨d,hd⟩ : ∃ d,x[n]? = some d:=⟨_,zE (by omega)⟩;have br:=d1.at hd;have hR:r*4294967296+d<Y*4294967296:=by omega
  have zw:(r*4294967296+d)/Y<4294967296:=(Nat.div_lt_iff_lt_mul (by omega)).2 (by omega);(repeat' ((first|(apply A9<;>intro hc<;>try omega)|(apply B5;omega)|(apply WU;omega)|(apply X7;omega)|(apply mS;omega;omega)|(apply EM;omega)|(apply II;omega)|(refine CN (by assumption) ?_ rfl ?_;omega)|apply A2)<;>conv=>whnf))
  obtain ⟨t,ht⟩ : ∃ t,t=r*4294967296+d:=⟨_,rfl⟩;rw[<-ht]at hR zw ⊢;have hm:t%Y<Y:=Nat.mod_lt _ (by omega);have j8:=AqF p5 ht;rw[<-MN hd]at j8;clear ht;skip
  refine JW (by omega) ?_;(conv=>whnf)
  (repeat' ((first|(apply DQ;omega)|(apply iQ;omega)|(apply EM;omega))<;>conv=>whnf))
  generalize t/Y=tq at *;generalize t%Y=tr at *;refine DP [] (by (conv=>whnf);exact ⟨rfl,rfl,rfl⟩) (ih n _ _ (by omega) ⟨by omega,by simpa using p2,p3.set _ (by omega),hm,?_⟩);rw[MN (l:=o.set n tq) (d:=tq) (by rw[List.getElem?_set_self (by omega)]),List.drop_set_of_lt (by omega)];exact j8
theorem nQ (a b:List Nat) (e:Int):B3 (.g8 [.sl false (a.map BF),.sl false (b.map BF),.int .i64 e]):=by
 simp only[B3,EC,and_true,true_and];exact ⟨GC a,GC b⟩
abbrev Aky:List It:=[It.lp HT.l1,It.c9 0,
   It.code
    (((DD.ops HT.x9 false).dr [0,75,79,80] []).seq
     (((DD.ops HT.y7 false).dr [81,82,83,84,85] []).seq
      ((((DD.ops HT.ag false).dr [86,87,88,89,90] []).seq
         (DD.block 2 HT.l2.loop)).seq
       (((DD.ops HT.Xo true).dr [9,10,11,12,13,14,92,277,278,279,280,281,282,283,284]
          []).seq
        DD.ret))))]
abbrev oC:List It:=[It.lp HT.l2,It.c9 2,It.code
       (((DD.ops HT.Xo true).dr [9,10,11,12,13,14,92,277,278,279,280,281,282,283,284]
          []).seq
        DD.ret)]
abbrev oD (v:List Nat) (s ul m:Nat) (j:Int):Tm:=[(14,.int .i64 j),(13,.row 85 0 1 0 m),(12,.int .i64 v.length),(11,.sl false (v.map BF)),(10,.row 69 0 1 0 ul),(9,.int .i64 (s:Int))]
abbrev Akx:DD:=(((DD.ops HT.r39 false).dr [18,19,20,166,205,206,207] []).seq
                (((DD.ops HT.r40 false).dr [208,209,210,211,212,213,214] []).seq
                 ((DD.ops HT.r41 false).seq
                  ((((DD.ops HT.r42 false).dr [215,216] []).seq
                     (DD.cond 217
                      (((DD.ops HT.r43 false).dr [18,217,218,219] []).seq
                       (DD.ops HT.r44 false))
                      DD.skip)).seq
                   (((DD.ops HT.r45 false).dr
                      [23,24,217,220,221,222,223,224,225,226,227,228] []).seq
                    ((((DD.ops HT.r46 false).dr [18,229] []).seq
                       (DD.cond 230
                        (((DD.ops HT.r47 false).dr [230,231,232] []).seq
                         ((DD.ops HT.r48 false).seq
                          (((DD.ops HT.r49 false).seq
                             (DD.block 8 HT.l5.loop)).seq
                           ((DD.ops HT.r55 false).dr
                            [25,26,235,262,263,264,265,266,267,268,269,270,271]
                            []))))
                        DD.skip)).seq
                     ((DD.ops HT.r56 false).dr [16,230,272,273,274,275,276]
                      [])))))))
abbrev Akz:List It:=It.lp HT.l4::It.c9 6::It.code Akx::It.c9 3::It.code ((DD.ops HT.bg false).dr [93,94] [])::oC
section
variable {A W C w y:List Nat} {j m s ul q:Nat} {Q:Tm->Mem->Prop}
theorem dI {e i n:Nat} (hi:i=A.length+n) (he:W[n]? = some e):(A++W++C)[i]? = some e:=by
 rw[Ahe hi (zS he).1];exact he
theorem uF (hA:A.length=j) (hW:W.length=y.length+1) (D2:B9 W) (gx:B9 y) (jn:2<=y.length) (Ag:y.length<=549755813888) (cj:0<val y) (gu:j<=1099511627776)
  (su:ul=j+(y.length+1)+C.length) (Pq:w.length=m) (Ox:j<m)
  (r1:q<4294967296) (r2:val W/val y<=q) (r3:q<=val W/val y+1)
  (hk : ∀ (W':List Nat) (q':Nat),W'.length=y.length+1->B9 W'->val W'=val W%val y->q'=val W/val y->AJ L oC (oD y s ul m ((j:Int)-1)) [(69,101021,.rw 1 ((A++W'++C).map BF)),(85,85,.rw 1 ((w.set j q').map BF))] Q) :
  AJ L Akz ([(20,.int .i64 0),(19,.int .u64 0),(18,.int .u64 0),(16,.int .u64 (q:Int))]++oD y s ul m (j:Int)) [(69,101021,.rw 1 ((A++W++C).map BF)),(85,85,.rw 1 (w.map BF))] Q:=by
 refine iI (λ i _ _ _=>y.length-i) (λ(i:Nat) (Z:List Nat) (c b:Nat)=>i<=y.length/\Z.length=y.length+1/\B9 Z/\c<4294967296/\b<=1/\Z.drop i=W.drop i/\val (Z.take i)+q*val (y.take i)=val (W.take i)+4294967296^i*(c+b)) (λ i Z c b=>[(20,.int .i64 i),(18,.int .u64 (b:Int)),(19,.int .u64 (c:Int))]) (λ i Z c b=>[(69,101021,.rw 1 ((A++Z++C).map BF))]) [] [] 0 W 0 0 (by (conv=>whnf);exact ⟨rfl,rfl,rfl⟩) ⟨by omega,hW,D2,by omega,by omega,rfl,by simp [val]⟩ ?_;intro i Z c b ⟨p1,p2,p3,p4,p5,p6,p7⟩ ih;by_cases hi:i<y.length
 ·obtain ⟨d,hd⟩ : ∃ d,y[i]? = some d:=⟨_,zE hi⟩
  obtain ⟨u,hu⟩ : ∃ u,Z[i]? = some u:=⟨_,zE (by omega)⟩;have br:=gx.at hd;have vz:=p3.at hu;have Pl:(A++Z++C)[((i:Int)+(j:Int)).toNat]? = some u:=dI (by omega) hu;obtain ⟨pr,xg⟩ : ∃ pr,pr=c+q*d:=⟨_,rfl⟩;obtain ⟨m1,m2,m3⟩:=AeP r1 br p4 (show pr=q*d+c by omega);have Bo:W[i]? = some u:=by
   have e1:(Z.drop i)[0]? = (W.drop i)[0]? := by rw[p6]
   simpa [hu] using e1.symm
  have ub : ∀ w,(Z.set i w).drop (i+1)=W.drop (i+1):=λ w=>by
   rw[List.drop_set_of_lt (by omega)];have e1:(Z.drop i).drop 1=(W.drop i).drop 1:=by rw[p6]
   simpa using e1
  have j8 : ∀ have' take w dn,take=pr%4294967296+b->((have'=u/\dn=0/\take<=u)\/(have'=u+4294967296/\dn=1/\u<take))->w+take=have'->val ((Z.set i w).take (i+1))+q*val (y.take (i+1))=val (W.take (i+1))+4294967296^(i+1)*(pr/4294967296+dn):=λ have' take w dn a1 a2 a3=>by
   rw[KY (by omega),H5 hd,H5 Bo,Nat.pow_succ];exact Ao1 p7 xg a1 a2 a3
  by_cases l7:u<pr%4294967296+b
  ·have h3:=j8 (u+4294967296) (pr%4294967296+b) (u+4294967296-(pr%4294967296+b)) 1 rfl (Or.inr ⟨rfl,rfl,l7⟩) (by omega)
   (repeat' ((first|(apply A9<;>intro hc<;>try omega)|(apply B5;omega)|(apply BG;omega)|(apply K0;omega)|(apply X6;omega)|(apply Yq;omega)|(apply OM;omega;omega)|apply J2|(apply mQ;omega)|(apply EM;omega)|(apply II;omega)|(refine CN (by assumption) ?_ rfl ?_;omega)|refine O3 (by assumption) ?_|apply A2)<;>conv=>whnf))
   rw[<-xg];skip
   refine W0 i (by omega) (by omega) ?_;(conv=>whnf)
   (repeat' ((first|(apply BG;omega)|fail)<;>conv=>whnf))
   exact DP [] (by (conv=>whnf);exact ⟨rfl,rfl,rfl⟩) (ih (i+1) (Z.set i (u+4294967296-(pr%4294967296+b))) (pr/4294967296) 1 (by omega) ⟨by omega,by simpa using p2,p3.set _ (by omega),m1,by omega,ub _,h3⟩)
  ·have h3:=j8 u (pr%4294967296+b) (u-(pr%4294967296+b)) 0 rfl (Or.inl ⟨rfl,rfl,by omega⟩) (by omega)
   (repeat' ((first|(apply A9<;>intro hc<;>try omega)|(apply B5;omega)|(apply BG;omega)|(apply K0;omega)|(apply X6;omega)|(apply Yq;omega)|(apply OM;omega;omega)|apply J2|(apply EM;omega)|(apply II;omega)|(refine CN (by assumption) ?_ rfl ?_;omega)|refine O3 (by assumption) ?_|apply A2)<;>conv=>whnf))
   rw[<-xg];skip
   refine W0 i (by omega) (by omega) ?_;(conv=>whnf)
   (repeat' ((first|(apply BG;omega)|fail)<;>conv=>whnf))
   exact DP [] (by (conv=>whnf);exact ⟨rfl,rfl,rfl⟩) (ih (i+1) (Z.set i (u-(pr%4294967296+b))) (pr/4294967296) 0 (by omega) ⟨by omega,by simpa using p2,p3.set _ (by omega),m1,by omega,ub _,h3⟩)
 ·obtain rfl:i=y.length:=by omega
  clear ih;obtain ⟨u,hu⟩ : ∃ u,Z[y.length]? = some u:=⟨_,zE (by omega)⟩;have vz:=p3.at hu;have Pl:(A++Z++C)[((j:Int)+(y.length:Int)).toNat]? = some u:=dI (by omega) hu;have Bo:W[y.length]? = some u:=by
   have e1:(Z.drop y.length)[0]? = (W.drop y.length)[0]? := by rw[p6]
   simpa [hu] using e1.symm
  rw[GV (Nat.le_refl y.length)]at p7;have eW:val W=val (W.take y.length)+4294967296^y.length*u:=by
   rw[<-H5 Bo,GV (by omega)]
  have j8 : ∀ have' take w dn,take=c+b->((have'=u/\dn=0/\take<=u)\/(have'=u+4294967296/\dn=1/\u<take))->w+take=have'->val (Z.set y.length w)+q*val y=val W+4294967296^y.length*4294967296*dn:=λ have' take w dn a1 a2 a3=>by
   have h1:=AoZ p7 a1 a2 a3;rw[<-eW,<-KY (show y.length<Z.length by omega),GV (by simp;omega)]at h1;exact h1
  by_cases l7:u<c+b
  ·have h3:=j8 (u+4294967296) (c+b) (u+4294967296-(c+b)) 1 rfl (Or.inr ⟨rfl,rfl,l7⟩) (by omega)
   have Kl:B9 (Z.set y.length (u+4294967296-(c+b))):=p3.set _ (by omega);have Hw:(Z.set y.length (u+4294967296-(c+b))).length=y.length+1:=by simpa using p2
   rw[Nat.mul_one]at h3;have Hu:=JM Kl;rw[Hw,Nat.pow_succ]at Hu;obtain ⟨y1,y2,y3⟩:=AbS cj r3 Hu h3;(repeat' ((first|(apply A9<;>intro hc<;>try omega)|(apply B5;omega)|(apply BG;omega)|(apply K0;omega)|(apply OM;omega;omega)|(apply mQ;omega)|(apply EM;omega)|(apply II;omega)|refine O3 (by assumption) ?_|apply A2)<;>conv=>whnf))
   refine W0 y.length (by omega) (by omega) ?_;(conv=>whnf)
   (repeat' ((first|(apply A9<;>intro hc<;>try omega)|(apply OM;omega;omega))<;>conv=>whnf))
   clear p7 p6 eW hu Bo vz Pl p2 p3 j8;generalize Z.set y.length (u+4294967296-(c+b))=X at *;have hRV:val W%val y<val y:=Nat.mod_lt _ cj;have Fg:=JM gx;obtain ⟨xw,Hg⟩ : ∃ xw,X[y.length]? = some xw:=⟨_,zE (by omega)⟩;have eX:val X=val (X.take y.length)+4294967296^y.length*xw:=by
    rw[<-H5 Hg,GV (by omega)]
   have Az:q-1<4294967296:=by omega
   refine LD (λ i _ _=>y.length-i) (λ(i:Nat) (Z:List Nat) (c:Nat)=>i<=y.length/\Z.length=y.length+1/\B9 Z/\c<=1/\Z.drop i=X.drop i/\val (Z.take i)+4294967296^i*c=val (X.take i)+val (y.take i)) (λ i Z c=>[(26,.int .i64 i),(25,.int .u64 (c:Int))]) (λ i Z c=>[(69,101021,.rw 1 ((A++Z++C).map BF))]) 0 X 0 ⟨by omega,Hw,Kl,by omega,rfl,by simp [val]⟩ ?_;intro i Z c ⟨p1,p2,p3,p4,p6,p7⟩ ih;by_cases hi:i<y.length
   ·obtain ⟨d,hd⟩ : ∃ d,y[i]? = some d:=⟨_,zE hi⟩
    obtain ⟨u,hu⟩ : ∃ u,Z[i]? = some u:=⟨_,zE (by omega)⟩;have br:=gx.at hd;have vz:=p3.at hu;have Pl:(A++Z++C)[((i:Int)+(j:Int)).toNat]? = some u:=dI (by omega) hu;have ot:X[i]? = some u:=by
     have e1:(Z.drop i)[0]? = (X.drop i)[0]? := by rw[p6]
     simpa [hu] using e1.symm
    have Th:=Xu (d:=d) (w:=u) (t:=c+(u+d)) p7 (by omega);(repeat' ((first|(apply A9<;>intro hc<;>try omega)|(apply B5;omega)|(apply BG;omega)|(apply K0;omega)|(apply EM;omega)|apply KQ|(refine CN (by assumption) ?_ rfl ?_;omega)|refine O3 (by assumption) ?_|apply A2)<;>conv=>whnf))
    generalize ht2:c+(u+d)=t2 at *;refine W0 i (by omega) (by omega) ?_;(conv=>whnf)
    (repeat' ((first|(apply BG;omega)|apply J2)<;>conv=>whnf))
    refine DP [] (by (conv=>whnf);exact ⟨rfl,rfl,rfl⟩) (ih (i+1) (Z.set i (t2%4294967296)) (t2/4294967296) (by omega) ⟨by omega,by simpa using p2,p3.set _ (by omega),by omega,?_,?_⟩)
    ·rw[List.drop_set_of_lt (by omega)]
     have e1:(Z.drop i).drop 1=(X.drop i).drop 1:=by rw[p6]
     simpa using e1
    ·rw[KY (by omega),H5 hd,H5 ot,Nat.pow_succ]
     exact Th
   ·obtain rfl:i=y.length:=by omega
    clear ih;obtain ⟨u,hu⟩ : ∃ u,Z[y.length]? = some u:=⟨_,zE (by omega)⟩;have vz:=p3.at hu;have Pl:(A++Z++C)[((j:Int)+(y.length:Int)).toNat]? = some u:=dI (by omega) hu;have ot:X[y.length]? = some u:=by
     have e1:(Z.drop y.length)[0]? = (X.drop y.length)[0]? := by rw[p6]
     simpa [hu] using e1.symm
    rw[ot]at Hg;obtain rfl:u=xw:=by simpa using Hg
    rw[GV (Nat.le_refl y.length)]at p7;have Km:=JM (p3.take y.length);rw[List.length_take,Nat.min_eq_left (by omega)]at Km;rw[eX]at y3;have uc:=Xt p7 y3 (by omega) Km;rw[<-KY (show y.length<Z.length by omega),GV (by simp;omega)]at uc;(repeat' ((first|(apply A9<;>intro hc<;>try omega)|(apply B5;omega)|(apply BG;omega)|apply Yp|(apply II;omega)|refine O3 (by assumption) ?_|apply A2)<;>conv=>whnf))
    refine W0 y.length (by omega) (by omega) ?_;(conv=>whnf)
    (repeat' ((first|(apply B5;omega)|(apply II;omega))<;>conv=>whnf))
    refine JW (by omega) ?_;(conv=>whnf)
    (repeat' ((first|(apply DQ;omega)|fail)<;>conv=>whnf))
    exact DP [] (by (conv=>whnf);exact ⟨rfl,rfl,rfl⟩) (hk _ _ (by simpa using p2) (p3.set _ (by omega)) uc y1)
  ·have h3:=j8 u (c+b) (u-(c+b)) 0 rfl (Or.inl ⟨rfl,rfl,by omega⟩) (by omega)
   rw[Nat.mul_zero,Nat.add_zero]at h3;obtain ⟨y1,y2⟩:=AbT cj r2 h3;(repeat' ((first|(apply A9<;>intro hc<;>try omega)|(apply B5;omega)|(apply BG;omega)|(apply K0;omega)|(apply OM;omega;omega)|(apply EM;omega)|(apply II;omega)|refine O3 (by assumption) ?_|apply A2)<;>conv=>whnf))
   refine W0 y.length (by omega) (by omega) ?_;(conv=>whnf)
   (repeat' ((first|(apply A9<;>intro hc<;>try omega)|(apply B5;omega)|(apply II;omega))<;>conv=>whnf))
   refine JW (by omega) ?_;(conv=>whnf)
   (repeat' ((first|(apply DQ;omega)|fail)<;>conv=>whnf))
   exact DP [] (by (conv=>whnf);exact ⟨rfl,rfl,rfl⟩) (hk _ _ (by simpa using p2) (p3.set _ (by omega)) y2 y1)
theorem AkA (hA:A.length=j) (hW:W.length=y.length+1) (D2:B9 W) (gx:B9 y) (jn:2<=y.length) (Ag:y.length<=549755813888) (cj:0<val y) (gu:j<=1099511627776)
  (n2:4294967296^(y.length-1)*2147483648<=val y) (g2:val W<4294967296*val y) (su:ul=j+(y.length+1)+C.length) (Pq:w.length=m) (Ox:j<m)
  (hk : ∀ (W':List Nat) (q':Nat),W'.length=y.length+1->B9 W'->val W'=val W%val y->q'=val W/val y->AJ L oC (oD y s ul m ((j:Int)-1)) [(69,101021,.rw 1 ((A++W'++C).map BF)),(85,85,.rw 1 ((w.set j q').map BF))] Q) :
  AJ L (.code HT.l2::oC) (oD y s ul m (j:Int)) [(69,101021,.rw 1 ((A++W++C).map BF)),(85,85,.rw 1 (w.map BF))] Q:=by
 obtain ⟨UL,a1,a2⟩:=rT D2 (n:=y.length+1) (by omega) (by omega);obtain ⟨VL,b5,b6⟩:=AgY gx (n:=y.length) jn (by omega);obtain ⟨u0,w0⟩ : ∃ d,W[y.length]? = some d:=⟨_,zE (by omega)⟩;obtain ⟨u1,w1⟩ : ∃ d,W[y.length-1]? = some d:=⟨_,zE (by omega)⟩;obtain ⟨u2,w2⟩ : ∃ d,W[y.length-2]? = some d:=⟨_,zE (by omega)⟩;obtain ⟨f1,x1⟩ : ∃ d,y[y.length-1]? = some d:=⟨_,zE (by omega)⟩;obtain ⟨f2,x2⟩ : ∃ d,y[y.length-2]? = some d:=⟨_,zE (by omega)⟩;rw[show y.length+1-3=y.length-2 by omega,show y.length+1-2=y.length-1 by omega,show y.length+1-1=y.length by omega,LY w0,LY w1,LY w2]at a2;rw[show y.length+1-3=y.length-2 by omega]at a1;rw[LY x1,LY x2]at b6;have yv:=AgI gx (k:=y.length-1) (by omega) n2 x1;have k0:=D2.at w0;have k1:=D2.at w1;have k2:=D2.at w2;have k3:=gx.at x1;have k4:=gx.at x2;have z1:y[((y.length:Int)-1).toNat]? = some f1:=by rw[show ((y.length:Int)-1).toNat=y.length-1 by omega];exact x1
 have z2:y[((y.length:Int)-2).toNat]? = some f2:=by rw[show ((y.length:Int)-2).toNat=y.length-2 by omega];exact x2
 have sj:(A++W++C)[((j:Int)+(y.length:Int)).toNat]? = some u0:=dI (by omega) w0;(repeat' ((first|(apply A9<;>intro hc<;>try omega)|(apply B5;omega)|(apply BG;omega)|(apply DQ;omega)|(apply WU;omega)|(apply EM;omega)|refine O3 (by assumption) ?_|apply A2)<;>conv=>whnf))
 have gd:(A++W++C)[((j:Int)+(y.length:Int)-1).toNat]? = some u1:=dI (by omega) w1;refine Aig gd ?_;(conv=>whnf)
 refine Yd (by omega) ?_;(conv=>whnf)
 refine X7 (by omega) ?_;(conv=>whnf)
 clear sj gd;have ct:(A++W++C)[((j:Int)+(y.length:Int)-2).toNat]? = some u2:=dI (by omega) w2;generalize Wy:u0*4294967296+u1=top at *;have Ha:top<=18446744073709551615:=by omega
 have hU:val W=UL+4294967296^(y.length-2)*(u2+4294967296*top):=by rw[a2,show u1+4294967296*u0=top by omega]
 (repeat' ((first|(apply DQ;omega)|(apply iQ;omega)|(apply mS;omega;omega)|(apply EM;omega)|(refine CN (by assumption) ?_ rfl ?_;omega))<;>conv=>whnf))
 refine dO (λ q _=>q) (λ(q r:Nat)=>Gs (val W) (val y) f1 f2 u2 top q r) (λ q r=>[(16,.int .u64 (q:Int)),(17,.int .u64 (r:Int))]) (λ_ _=>[]) [] [] (top/f1) (top%f1) (by (conv=>whnf);exact ⟨rfl,rfl,rfl⟩) (Gs.start hU b6 a1 k2 cj (by omega) k3) ?_;intro q r g lk;have We:q<=top:=by
  have h3:=g.hq;have h4:q*1<=q*f1:=Nat.mul_le_mul_left q (by omega);omega
 have hr:=g.hr;have ud:=g.ge;by_cases hb:4294967296<=q
 ·obtain ⟨y1,y2,y3⟩:=g.next hU b6 a1 cj g2 (Or.inl hb)
  (repeat' ((first|(apply A9<;>intro hc<;>try omega)|(apply DQ;omega)|(apply K0;omega)|(apply OM;omega;omega)|(apply EM;omega)|(refine CN (by assumption) ?_ rfl ?_;omega)|apply A2)<;>conv=>whnf))
  ·obtain ⟨t1,t2⟩:=fP hU b6 b5 yv k4 g2 y2 (Or.inr (by omega))
   exact DP [] (by (conv=>whnf);exact ⟨rfl,rfl,rfl⟩) (uF (w:=w) (C:=C) hA hW D2 gx jn Ag cj gu su Pq Ox t1 y3 t2 hk)
  ·exact DP [] (by (conv=>whnf);exact ⟨rfl,rfl,rfl⟩) (lk (q-1) (r+f1) (by omega) ⟨y2,by omega,y3⟩)
 ·have hmq:=gA (show q<4294967296 by omega) k4
  by_cases z7:r*4294967296+u2<q*f2
  ·obtain ⟨y1,y2,y3⟩:=g.next hU b6 a1 cj g2 (Or.inr z7)
   (repeat' ((first|(apply A9<;>intro hc<;>try omega)|(apply B5;omega)|(apply BG;omega)|(apply DQ;omega)|(apply K0;omega)|(apply X6;omega)|(apply WU;omega)|(apply X7;omega)|(apply OM;omega;omega)|(apply EM;omega)|(refine CN (by assumption) ?_ rfl ?_;omega)|refine O3 (by assumption) ?_|apply A2)<;>conv=>whnf))
   ·obtain ⟨t1,t2⟩:=fP hU b6 b5 yv k4 g2 y2 (Or.inr (by omega))
    exact DP [] (by (conv=>whnf);exact ⟨rfl,rfl,rfl⟩) (uF (w:=w) (C:=C) hA hW D2 gx jn Ag cj gu su Pq Ox t1 y3 t2 hk)
   ·exact DP [] (by (conv=>whnf);exact ⟨rfl,rfl,rfl⟩) (lk (q-1) (r+f1) (by omega) ⟨y2,by omega,y3⟩)
  ·obtain ⟨t1,t2⟩:=fP hU b6 b5 yv k4 g2 g.hq (Or.inl ⟨by omega,by omega⟩)
   (repeat' ((first|(apply A9<;>intro hc<;>try omega)|(apply B5;omega)|(apply BG;omega)|(apply DQ;omega)|(apply X6;omega)|(apply WU;omega)|(apply X7;omega)|(apply EM;omega)|(refine CN (by assumption) ?_ rfl ?_;omega)|refine O3 (by assumption) ?_|apply A2)<;>conv=>whnf))
   exact DP [] (by (conv=>whnf);exact ⟨rfl,rfl,rfl⟩) (uF (w:=w) (C:=C) hA hW D2 gx jn Ag cj gu su Pq Ox t1 ud t2 hk)
end
theorem Aru {l:List Nat} (hD:B9 l) (h:l[l.length-1]? = some 0):val l<4294967296^(l.length-1):=by
 have hl:=(zS h).1;have h1:=PO l (l.length-1) (by omega);have h2:=MN h;rw[List.drop_of_length_le (show l.length<=l.length-1+1 by omega),OH]at h2;rw[h2]at h1;simp only[Nat.mul_zero,Nat.add_zero]at h1;have h3:=JM (hD.take (l.length-1));rw[List.length_take,Nat.min_eq_left (by omega)]at h3;omega
theorem AbW (N:a6 L) {X Y s:Nat} {x u y:List Nat} (hY:Y≠0) (fb:s<=31) (Od:B9 u) (Og:val u=X*2^s) (hU0:u[u.length-1]? = some 0) (su:x.length+1<=u.length/\u.length<=549755813888) (gx:B9 y) (Oi:val y=Y*2^s) (iw:2<=y.length/\y.length<=x.length) (n2:4294967296^(y.length-1)*2147483648<=val y) :
  AJ L Aky [(10,.row 69 0 1 0 u.length),(11,.sl false (y.map BF)),(9,.int .i64 (s:Int)),(0,.sl false (x.map BF))] [(69,101021,.rw 1 (u.map BF))] (YB HT (.g8 [.sl false ((dg (X/Y)).map BF),.sl false ((dg (X%Y)).map BF),.int .i64 0])):=by
 refine G5 (λ(_:Nat)=>0) (λ_=>True) (λ_=>[]) (λ_=>[]) 0 trivial ?_;intro _ _ _;(repeat' ((first|(apply A9<;>intro hc<;>try omega)|(apply BG;omega)|(apply DQ;omega)|apply BT|apply A2)<;>conv=>whnf))
 refine GJ (enc:=BF) 0 (u.length-y.length) (by rfl) (by omega) (by omega) ?_;(conv=>whnf)
 (repeat' ((first|(apply DQ;omega)|fail)<;>conv=>whnf))
 have cj:0<val y:=by
  have:=Afl (y.length-1)
  omega
 have Fi:=JM gx;generalize hm:u.length-y.length=m at *;have vb:val (u.drop m)<val y:=by
  have h1:(u.drop m).length=y.length:=by simp;omega
  have h2:=Aru (l:=u.drop m) (Od.drop _) (by rw[h1,List.getElem?_drop,show m+(y.length-1)=u.length-1 by omega];exact hU0);rw[h1]at h2;omega
 rw[show (u.length:Int)-y.length-1=((m:Nat):Int)-1 by omega];refine LD (λ n _ _=>n) (λ(n:Nat) (o w:List Nat)=>n<=m/\o.length=u.length/\B9 o/\w.length=m/\B9 w/\val (o.drop n)<val y/\X*2^s=val (o.take n)+4294967296^n*(val (w.drop n)*val y+val (o.drop n))) (λ n o w=>[(14,.int .i64 ((n:Int)-1))]) (λ n o w=>[(69,101021,.rw 1 (o.map BF)),(85,85,.rw 1 (w.map BF))]) m u (List.replicate m 0) ⟨by omega,rfl,Od,by simp,OS _,vb,by rw[<-Og,List.drop_of_length_le (show (List.replicate m 0).length<=m by simp),OH,Nat.zero_mul,Nat.zero_add];exact PO u m (by omega)⟩ ?_;intro n o w ⟨p1,p2,p3,p4,p5,p6,p7⟩ ih;rcases n with _|j
 ·clear ih
  rw[List.drop_zero]at p6;rw[List.take_zero,List.drop_zero,List.drop_zero,OH,Nat.zero_add,Nat.pow_zero,Nat.one_mul]at p7;have ub:val o=val (o.take y.length):=by
   have h1:=dG o y.length;rcases Nat.eq_zero_or_pos (val (o.drop y.length)) with h2|h2
   ·rw[h2,Nat.mul_zero,Nat.add_zero]at h1;exact h1
   ·have h3:4294967296^y.length*1<=4294967296^y.length*val (o.drop y.length):=Nat.mul_le_mul_left _ h2
    omega
  have Bp:X/Y=val w/\X%Y=val o/2^s:=by
   obtain ⟨z1,z2⟩:=AbV (X:=X) (Y:=Y) (Nat.two_pow_pos s);rw[<-z1,<-z2,<-Oi,p7];have e1:(val w*val y+val o)/val y=val w:=by
    rw[Nat.mul_comm,Nat.mul_add_div cj,Nat.div_eq_of_lt p6,Nat.add_zero]
   have e2:(val w*val y+val o)%val y=val o:=by
    rw[Nat.mul_comm,Nat.mul_add_mod,Nat.mod_eq_of_lt p6]
   rw[e1,e2];exact ⟨rfl,rfl⟩
  rw[Bp.1,Bp.2,ub];have hT:=λ q=>K3 N w q p5 (by omega)
  have kp:(o.take y.length).length<=549755813888:=by rw[List.length_take];omega
  clear p7 Bp vb;rw[<-p4];rcases Nat.eq_zero_or_pos s with h0|h0
  ·subst h0
   have hS:=λ q=>AcZ N (o.take y.length) q 0 (p3.take _) kp (by omega)
   rw[Nat.pow_zero,Nat.mul_one]at hS;rw[Nat.pow_zero,Nat.div_one];(repeat' ((first|(apply A9<;>intro hc<;>try omega)|(refine FO (λ_=>rfl) rfl ?_ ?_;(first|rfl|simp))|apply A2|refine AP (hT _) ?_)<;>conv=>whnf))
   refine L6 y.length rfl (by omega) ?_;(conv=>whnf)
   refine FE.neg (by omega) ?_;(conv=>whnf)
   refine M9 (enc:=BF) (λ_=>rfl) (by omega) ?_;(conv=>whnf)
   rw[List.drop_zero,Nat.sub_zero,show -((0:Nat):Int)=((0:Nat):Int) by omega];(repeat' (refine AP (hS _) ?_<;>conv=>whnf))
   exact BV rfl (nQ _ _ _)
  ·have hS:=λ q=>AmA N (o.take y.length) q s (p3.take _) kp (by omega)
   (repeat' ((first|(apply A9<;>intro hc<;>try omega)|(refine FO (λ_=>rfl) rfl ?_ ?_;(first|rfl|simp))|apply A2|refine AP (hT _) ?_)<;>conv=>whnf))
   refine L6 y.length rfl (by omega) ?_;(conv=>whnf)
   refine FE.neg (by omega) ?_;(conv=>whnf)
   refine M9 (enc:=BF) (λ_=>rfl) (by omega) ?_;(conv=>whnf)
   rw[List.drop_zero,Nat.sub_zero];(repeat' (refine AP (hS _) ?_<;>conv=>whnf))
   exact BV rfl (nQ _ _ _)
 ·have e3:((j+1:Nat):Int)-1=j:=by omega
  rw[e3];obtain ⟨A,W,C,hA,hW,rfl⟩:=Acg o j (y.length+1) (by omega);obtain ⟨g1,g2,g3⟩:=Aci hA hW p3 p6 Fi;obtain ⟨D1,D2,D3⟩:=AbR p3;have Az:val W/val y<4294967296:=(Nat.div_lt_iff_lt_mul cj).2 g2;have Sx:val W=val W/val y*val y+val W%val y:=by rw[Nat.mul_comm];exact (Nat.div_add_mod _ _).symm
  have Fj:val W%val y<val y:=Nat.mod_lt _ cj;have Ff:X*2^s=val A+4294967296^j*val W+4294967296^j*4294967296*(val (w.drop (j+1))*val y):=by
   rw[p7,Nat.mul_add,<-g3,Nat.pow_succ];omega
  have ux:=Ach Ff Sx;have jl : ∀ q',q'=val W/val y->val ((w.set j q').drop j)=val W/val y+4294967296*val (w.drop (j+1)):=λ q' h=>by
   rw[MN (l:=w.set j q') (d:=q') (by rw[List.getElem?_set_self (by omega)]),List.drop_set_of_lt (by omega),h]
  have hlen : ∀ W':List Nat,W'.length=y.length+1->(A++W'++C).length=u.length:=λ W' h=>by
   rw[<-p2];simp [h,hW]
  have Pa:u.length=j+(y.length+1)+C.length:=by rw[<-p2];simp [hA,hW];omega
  refine DP [] (by (conv=>whnf);exact ⟨rfl,rfl,rfl⟩) (AkA (m:=m) (s:=s) (ul:=u.length) (C:=C) hA hW D2 gx iw.1 (by omega) cj (by omega) n2 g2 Pa p4 (by omega) (λ W' q' z1 z2 z3 z4 => ?_));obtain ⟨t1,t2⟩:=uO (A:=A) (W:=W') (C:=C) (j:=j) hA g1;refine DP [] (by (conv=>whnf);exact ⟨rfl,rfl,rfl⟩) (ih j (A++W'++C) (w.set j q') (by omega) ⟨by omega,hlen W' z1,(D1.append z2).append D3,by simpa using p4,p5.set _ (by omega),by omega,?_⟩);rw[t1,t2,jl q' z4,z3];exact ux
end Go.b8

namespace Go.b8
open F
attribute [local irreducible] AJ A3 BU AU FE BR C1 CK DS DE FA G7 DR B2 EH E5 AL CQ BC pw FM E2 F7 G8 GX EG FK EE FZ
variable {L:Lib}
set_option maxHeartbeats 8000000
theorem AcY (N:a6 L) (a b:List Nat) (q1 q2:Bool) (hA:B9 a) (hB:B9 b) (la:a.length<=274877906944) (lb:b.length<=274877906944) (h0:val b≠0) :
  Ev L 109 [.sl q1 (a.map BF),.sl q2 (b.map BF)] (.g8 [.sl false ((dg (val a/val b)).map BF),.sl false ((dg (val a%val b)).map BF),.int .i64 0]):=by
 have t1:=λ q=>K3 N a q hA (by omega)
 have t2:=λ q=>K3 N b q hB (by omega)
 have l1:=JB hA;have l2:=JB hB;have n0:=λ q q'=>vD N (dg (val a)) (dg (val b)) q q' (HW _) (HW _) (by omega) (by omega)
 rw[EA,EA]at n0;generalize val a=X at *;generalize val b=Y at *;have d1:=HW X;have d2:=HW Y;have v1:=EA X;have v2:=EA Y;have hy1:=jM h0;refine Ev.x N.HT rfl rfl ?_;by_cases h1:(dg Y).length=1
 ·obtain ⟨y0,qz⟩ : ∃ y0,dg Y=[y0]:=List.length_eq_one_iff.1 h1
  have wg:Y=y0:=by rw[<-v2,qz];simp [val]
  subst wg;have Ix:Y<4294967296:=d2 Y (by rw[qz];simp);have hyg:(dg Y)[(0:Int).toNat]? = some Y:=by rw[qz];rfl
  have cq:=λ q=>AmB N (dg X) Y q d1 (by omega) h0 Ix
  rw[v1]at cq;have sn:X%Y<4294967296:=Nat.lt_trans (Nat.mod_lt _ (by omega)) Ix;have hT3:=λ q=>K3 N [X%Y] q (MS sn) (by simp)
  rw[show val [X%Y]=X%Y by simp [val]]at hT3;clear qz v2;generalize dg Y=y at *;(repeat' ((first|(apply A9<;>intro hc<;>try omega)|apply BT|(refine CN (by assumption) ?_ rfl ?_;omega)|refine J4 rfl ?_|apply A2|refine AP (t1 _) ?_|refine AP (t2 _) ?_|refine AP (cq _) ?_|refine AP (hT3 _) ?_)<;>conv=>whnf))
  exact BV rfl (nQ _ _ _)
 by_cases l7:X<Y
 ·rw[<-NT (by omega)]at n0
  (repeat' ((first|(apply A9<;>intro hc<;>try omega)|apply BT|apply A2|refine AP (t1 _) ?_|refine AP (t2 _) ?_|refine AP (n0 _ _) ?_)<;>conv=>whnf))
  refine BV ?_ (nQ _ _ _);rw[Nat.div_eq_of_lt l7,Nat.mod_eq_of_lt l7,JL];rfl
 have ud:=nS (show Y<=X by omega);generalize GS X Y=cm at *;have Vl:2<=(dg Y).length:=by omega
 obtain ⟨yt,Ak,Cq⟩:=uD h0;have Am:=d2.at Ak;obtain ⟨b1,b2,b3,b4⟩:=xF Cq Am;have nf:=λ q=>Amx N yt q Cq Am
 generalize hs:32-v5 yt=s at *;have fb:s<=31:=by omega
 have Wr:=λ q=>AcZ N (dg Y) q s d2 (by omega) (by omega)
 obtain ⟨n1,n2⟩:=wX d2 Ak (by omega) fb b3 b4;rw[v2]at Wr n1 n2;have ub:(dg Y).drop ((dg Y).length-1)=[yt]:=by
  obtain ⟨hi,he⟩:=zS Ak;rw[List.drop_eq_getElem_cons hi,he,List.drop_of_length_le (by omega)]
 have iw:(dg (Y*2^s)).length=(dg Y).length:=by
  have a1:=W9.2 n1;have a2 : ¬ (dg (Y*2^s)).length<=(dg Y).length-1:=λ h=>by
   have:=W9.1 h
   omega
  omega
 have AIX:(dg (X*2^s)).length<=(dg X).length+1:=by
  refine W9.2 ?_;have a1:X<4294967296^(dg X).length:=W9.1 (Nat.le_refl _);rw[Nat.pow_succ];have a2:=kX (s:=s) (by omega);exact Nat.lt_of_lt_of_le (Nat.mul_lt_mul_of_pos_right a1 (Nat.two_pow_pos s)) (Nat.mul_le_mul_left _ a2)
 have Hw:(dg X).length<=(dg (X*2^s)).length:=ZU (Nat.le_mul_of_pos_right _ (Nat.two_pow_pos s));have zl:=ZU (show Y<=X by omega);generalize hx:dg X=x at *;generalize hy:dg Y=y at *;have t3:=λ q=>K3 N x q d1 (by omega)
 rw[v1,hx]at t3;(repeat' ((first|(apply A9<;>intro hc<;>try omega)|(apply DQ;omega)|apply BT|apply A2|refine AP (t1 _) ?_|refine AP (t2 _) ?_|refine AP (n0 _ _) ?_)<;>conv=>whnf))
 rw[show (y.length:Int)-1=((y.length-1:Nat):Int) by omega];refine Yx (k:=y.length-1) (λ_=>rfl) (by omega) ?_;(conv=>whnf)
 rw[ub];(repeat' ((first|(apply DQ;omega)|refine AP (nf _) ?_)<;>conv=>whnf))
 rw[show (32:Int)-(v5 yt:Nat)=((s:Nat):Int) by omega];refine LE 1000 N.N4 rfl rfl ?_;have Pn:(s:Int)/32=((0:Nat):Int):=by omega
 have Eh:(s:Int)%32=((s:Nat):Int):=by omega
 (repeat' ((first|(apply A9<;>intro hc<;>try omega)|(refine PT ?_ ?_ (λ_ => ?_) (λ_ _ => ?_);omega;omega;all_goals try omega)|apply BT|apply A2|refine AP (t3 _) ?_)<;>conv=>whnf))
 rw[Pn];refine GJ (enc:=BF) 0 0 rfl rfl (by omega) ?_;(conv=>whnf)
 skip
 refine LD (λ i _ _=>x.length-i) (λ(i:Nat) (o:List Nat) (c:Nat)=>i<=x.length/\o.length=i/\B9 o/\c<2^s/\val o+4294967296^i*c=val (x.take i)*2^s) (λ i o c=>[(10,.int .i64 i),(9,.int .u64 (c:Int)),(8,.row 107069 0 1 0 i)]) (λ i o c=>[(107069,107069,.rw 1 (o.map BF))]) 0 [] 0 ⟨by omega,rfl,eH,Nat.two_pow_pos _,by simp [val]⟩ ?_;intro i o c ⟨p1,p2,p3,p4,p5⟩ ih;have xi:=kX (s:=s) (by omega);by_cases hi:i<x.length
 ·obtain ⟨d,hd⟩ : ∃ d,x[i]? = some d:=⟨_,zE hi⟩
  have br:=d1.at hd;obtain ⟨f1,f2,f3,f4⟩:=cX (s:=s) br (by omega);have hr:=pU (show s<=64 by omega) f4;(repeat' ((first|(apply A9<;>intro hc<;>try omega)|(refine WW ?_ (λ_ _ _ => ?_) (λ_ _ _ _ => ?_);omega;all_goals try omega)|(apply EM;omega)|apply BT|(refine CN (by assumption) ?_ rfl ?_;omega)|apply A2)<;>conv=>whnf))
  rw[Eh];refine YA (by omega) f4 ?_;(conv=>whnf)
  skip
  refine mR s (Nat.mul_mod_left _ _) p4 (by omega) ?_;(conv=>whnf)
  have j8:=AgT (d:=d) (P:=1) (V:=val o) (p:=4294967296^i) (lo:=c) (X:=val (x.take i)) (s:=s) (by rw[Nat.one_mul,Nat.one_mul];exact p5) rfl;have yo:(c+d*2^s)/4294967296<2^s:=by
   rw[Nat.div_lt_iff_lt_mul (by omega)];have:=zR (2^s) (show d<=4294967295 by omega)
   omega
  generalize c+d*2^s=t at *;(repeat' ((first|apply KQ|apply GY)<;>conv=>whnf))
  refine H8 (enc:=BF) (t%4294967296) rfl p2.symm rfl (by omega) (by omega) ?_;(conv=>whnf)
  (repeat' ((first|(apply BG;omega)|apply J2)<;>conv=>whnf))
  rw[show (o++[t%4294967296]).length=i+1 by simp [p2]];refine DP [(107069,107091)] (by (conv=>whnf);exact ⟨rfl,rfl,rfl⟩) (ih (i+1) (o++[t%4294967296]) (t/4294967296) (by omega) ⟨by omega,by simp;omega,p3.append (MS (by omega)),yo,?_⟩);rw[WD,p2,H5 hd,Nat.pow_succ];rw[Nat.one_mul,Nat.one_mul]at j8;exact j8
 obtain rfl:i=x.length:=by omega
 clear ih;have qf:c<4294967296:=by omega
 have hOD:B9 (o++[c]):=p3.append (MS qf);have Kc:val (o++[c])=X*2^s:=by
  rw[WD,p2,p5,GV (Nat.le_refl _),v1]
 have Kb:(o++[c]).length=x.length+1:=by simp [p2]
 (repeat' ((first|(apply A9<;>intro hc<;>try omega)|(apply II;omega)|apply BT|apply GY|apply A2)<;>conv=>whnf))
 refine H8 (enc:=BF) c rfl p2.symm rfl (by omega) (by omega) ?_;(conv=>whnf)
 rw[Kb];generalize o++[c]=O at *;rw[<-Kb];clear p3 p4 p5;refine LE 1000 N.M3 rfl rfl ?_;(repeat' (apply A2<;>conv=>whnf))
 refine G5 (λ n=>n) (λ(n:Nat)=>n<=(O).length /\ ∀ i,n<=i->i<(O).length->(O)[i]? = some 0) (λ n=>[(3,.int .i64 n)]) (λ_=>[]) (O).length ⟨Nat.le_refl _,λ i h1 h2=>by omega⟩ ?_;intro n ⟨p1,p2⟩ ih;rcases n with _|n
 ·(repeat' ((first|(apply A9<;>intro hc<;>try omega)|apply A2)<;>conv=>whnf))
  refine L6 0 (by omega) (by omega) ?_;(conv=>whnf)
  have eo:=LH (l:=O) (by assumption) p1 p2 (Or.inl rfl);have o6:(List.take 0 O).length<=(O).length:=by rw[List.length_take];omega
  clear ih p2;refine nB (enc:=BF) (by omega) ?_;(conv=>whnf)
  rw[List.drop_zero,Nat.sub_zero];generalize Ht:List.take 0 O=T0 at *;refine ZB (enc:=BF) (λ_=>rfl) (by omega) (by omega) ?_;(conv=>whnf)
  refine ⟨rfl,_,rfl,?_⟩;(conv=>whnf)
  (refine ⟨rfl,_,rfl,?_⟩;(conv=>whnf);(repeat' ((first|apply GY|refine AP (Wr _) ?_)<;>conv=>whnf));refine H8 (enc:=BF) 0 rfl rfl rfl (by omega) (by omega) ?_;(conv=>whnf);rw[Kc]at eo;rw[eo];exact DP [] (by (conv=>whnf);exact ⟨rfl,rfl,rfl⟩) (AbW N (x:=x) (X:=X) (Y:=Y) (s:=s) (u:=dg (X*2^s)++[0]) (y:=dg (Y*2^s)) h0 fb ((HW _).append (MS (by omega))) (by rw[WD,EA,Nat.mul_zero,Nat.add_zero]) (by simp) (by simp;omega) (HW _) (EA _) (by omega) (by rw[EA,iw];exact n2)))
 ·have e1:((n+1:Nat):Int)-1=n:=by omega
  (repeat' ((first|(apply A9<;>intro hc<;>try omega)|(apply B5;omega)|(apply DQ;omega)|(refine aU (by assumption) ?_ (λ v hv hb => ?_);omega)|apply A2)<;>conv=>whnf))
  ·rw[e1]
   exact CZ [] (ih n (by omega) ⟨by omega,λ i h1 h2=>by
    by_cases h:i=n
    ·subst h
     rw[e1,Int.toNat_natCast]at hv;rw[hv];congr 1;omega
    ·exact p2 i (by omega) h2⟩)
  ·refine L6 (n+1) (by omega) (by omega) ?_
   (conv=>whnf)
   rw[e1,Int.toNat_natCast]at hv;have eo:=LH (l:=O) (by assumption) p1 p2 (Or.inr ⟨_,hv,by omega⟩);have o6:(List.take (n+1) O).length<=(O).length:=by rw[List.length_take];omega
   clear ih p2 hv;(rw[Xz (l:=O)];rotate_left;exact rfl;exact rfl);(conv=>whnf)
   refine nB (enc:=BF) (by omega) ?_;(conv=>whnf)
   rw[List.drop_zero,Nat.sub_zero];generalize Ht:List.take (n+1) O=T0 at *;refine ZB (enc:=BF) (λ_=>rfl) (by omega) (by omega) ?_;(conv=>whnf)
   refine ⟨rfl,_,rfl,?_⟩;(conv=>whnf)
   (refine ⟨rfl,_,rfl,?_⟩;(conv=>whnf);(repeat' ((first|apply GY|refine AP (Wr _) ?_)<;>conv=>whnf));refine H8 (enc:=BF) 0 rfl rfl rfl (by omega) (by omega) ?_;(conv=>whnf);rw[Kc]at eo;rw[eo];exact DP [] (by (conv=>whnf);exact ⟨rfl,rfl,rfl⟩) (AbW N (x:=x) (X:=X) (Y:=Y) (s:=s) (u:=dg (X*2^s)++[0]) (y:=dg (Y*2^s)) h0 fb ((HW _).append (MS (by omega))) (by rw[WD,EA,Nat.mul_zero,Nat.add_zero]) (by simp) (by simp;omega) (HW _) (EA _) (by omega) (by rw[EA,iw];exact n2)))
theorem Amy (N:a6 L) (a b:List Nat) (q1 q2:Bool) (hA:B9 a) (hB:B9 b) (la:a.length<=274877906944) (lb:b.length<=274877906944) :
  Ev L 110 [.sl q1 (a.map BF),.sl q2 (b.map BF)] (.sl false ((dg (Nat.gcd (val a) (val b))).map BF)):=by
 have t1:=λ q=>K3 N a q hA (by omega)
 have t2:=λ q=>K3 N b q hB (by omega)
 have l1:=JB hA;have l2:=JB hB;generalize val a=X at *;generalize val b=Y at *;refine Ev.x N.UJ rfl rfl ?_;(repeat' ((first|apply A2|refine AP (t1 _) ?_|refine AP (t2 _) ?_)<;>conv=>whnf))
 refine IX (λ_ y=>y) (λ(x y:Nat)=>(dg x).length<=274877906944/\(dg y).length<=274877906944/\Nat.gcd x y=Nat.gcd X Y) (λ x y=>[(0,.sl false ((dg x).map BF)),(1,.sl false ((dg y).map BF))]) (λ_ _=>[]) X Y ⟨by omega,by omega,rfl⟩ ?_;intro x y ⟨p1,p2,p3⟩ ih;rw[<-p3];by_cases h0:y=0
 ·subst h0
  have vf:(dg 0).length=0:=by rw[JL];rfl
  clear ih;rw[Nat.gcd_zero_right];(repeat' ((first|(apply A9<;>intro hc<;>try omega)|apply BT|apply A2)<;>conv=>whnf))
  exact BV rfl (O4 _)
 ·have hp:=jM h0
  have hD:=λ q q'=>AcY N (dg x) (dg y) q q' (HW _) (HW _) p1 p2 (by rw[EA];exact h0)
  rw[EA,EA]at hD;have l7:x%y<y:=Nat.mod_lt _ (by omega);have wy:=ZU (Nat.le_of_lt l7);(repeat' ((first|(apply A9<;>intro hc<;>try omega)|apply BT|apply A2|refine AP (hD _ _) ?_)<;>conv=>whnf))
  rw[p3];exact CZ [] (ih y (x%y) l7 ⟨p2,by omega,by rw[kJ];exact p3⟩)
theorem O5 (N:a6 L) (n q:Bool) (m:List Nat) (hm:Sm 274877906944 m):Ev L 111 [.agg (rZ q n m)] (.agg (eZ (zv n m))):=by
 have hT:=λ q=>K3 N m q hm.1 (by have:=hm.2;omega)
 have hz:=NV (val m);have ha:=JG n m;refine Ev.x N.UY rfl rfl ?_;cases n
 ·rw[I7]at *
  (repeat' ((first|apply A2|refine AP (hT _) ?_)<;>conv=>whnf))
  exact BV (I0 ha.symm (LR (by omega))) (HH _)
 ·rw[X5]at *
  (repeat' ((first|(apply A9<;>intro hc<;>try omega)|apply BT|apply A2|refine AP (hT _) ?_)<;>conv=>whnf))
  ·exact BV (I0 ha.symm (V5 (by omega))) (HH _)
  ·exact BV (I0 ha.symm (LR (by omega))) (HH _)
theorem oO (N:a6 L) (n q:Bool) (m:List Nat) (hm:Sm 274877906944 m):Ev L 113 [.agg (rZ q n m)] (.int .i64 (v9 (zv n m))):=by
 have hT:=λ q=>O5 N n q m hm
 generalize zv n m=z at *;have hz:=NV z.natAbs;refine Ev.x N.UW rfl rfl ?_;(repeat' ((first|(apply A9<;>intro hc<;>try omega)|apply BT|apply A2|refine AP (hT _) ?_)<;>conv=>whnf))
 ·exact ET (qV (by omega))
 ·cases hd:decide (z<0)
  ·(conv=>whnf)
   exact ET (zG (by have:=of_decide_eq_false hd;omega))
  ·(conv=>whnf)
   exact ET (zF (of_decide_eq_true hd))
theorem vF (N:a6 L) (n q:Bool) (m:List Nat) (hm:Sm 274877906944 m):Ev L 114 [.agg (rZ q n m)] (.agg (eZ (-(zv n m)))):=by
 have hT:=λ q=>O5 N n q m hm
 generalize zv n m=z at *;have hz:=NV z.natAbs;refine Ev.x N.UT rfl rfl ?_;(repeat' ((first|apply A2|refine AP (hT _) ?_)<;>conv=>whnf))
 cases hd:decide (z<0)
 ·have h1:=of_decide_eq_false hd
  (conv=>whnf)
  (repeat' ((first|(apply A9<;>intro hc<;>try omega)|apply BT)<;>conv=>whnf))
  ·exact BV (I0 (by omega) (V5 (by omega))) (HH _)
  ·exact BV (I0 (by omega) (LR (by omega))) (HH _)
 ·have h1:=of_decide_eq_true hd
  (conv=>whnf)
  skip
  exact BV (I0 (by omega) (LR (by omega))) (HH _)
theorem bR (N:a6 L) (n1 n2 q1 q2:Bool) (a b:List Nat) (ha:B9 a) (hb:B9 b) (hl:a.length+b.length<=274877906944):Ev L 118 [.agg (rZ q1 n1 a),.agg (rZ q2 n2 b)] (.agg (eZ (zv n1 a*zv n2 b))):=by
 have h1:=λ q q'=>Amz N a b q q' ha hb (by omega)
 have sa:Sm a.length a:=⟨ha,Nat.le_refl _⟩;have sb:Sm b.length b:=⟨hb,Nat.le_refl _⟩;have hT:=λ n q=>O5 N n q (dg (val a*val b)) ((sa.mul sb rfl).le hl)
 have e : ∀ n,zv n (dg (val a*val b))=bif n then -((val a*val b:Nat):Int) else ((val a*val b:Nat):Int):=λ n=>by unfold zv;rw[EA]
 have e2:zv n1 a*zv n2 b=zv (n1 != n2) (dg (val a*val b)):=by
  rw[e];cases n1<;>cases n2<;>simp [I7,X5,Int.mul_neg,Int.neg_mul]
 rw[e2];refine Ev.x N.US rfl rfl ?_;cases n1<;>cases n2;all_goals
  (repeat' ((first|apply A2|refine AP (h1 _ _) ?_|refine AP (hT _ _) ?_)<;>conv=>whnf))
  exact BV rfl (HH _)
theorem Ac0 (N:a6 L) (n1 n2 q1 q2:Bool) (a b:List Nat) (ha:Sm 274877906943 a) (hb:Sm 274877906943 b):Ev L 115 [.agg (rZ q1 n1 a),.agg (rZ q2 n2 b)] (.agg (eZ (zv n1 a+zv n2 b))):=by
 have t1:=λ q=>O5 N n1 q a (ha.le (by omega))
 have t2:=λ q=>O5 N n2 q b (hb.le (by omega))
 have s1:Sm 274877906943 (dg (zv n1 a).natAbs):=by rw[JG];exact ha.Bc
 have s2:Sm 274877906943 (dg (zv n2 b).natAbs):=by rw[JG];exact hb.Bc
 generalize zv n1 a=x at *;generalize zv n2 b=y at *;have h1:=λ q q'=>AcX N (dg x.natAbs) (dg y.natAbs) q q' s1.1 s2.1 (by have:=s1.2;omega) (by have:=s2.2;omega)
 have h2:=λ q q'=>vE N (dg x.natAbs) (dg y.natAbs) q q' s1.1 s2.1 (by have:=s1.2;omega) (by have:=s2.2;omega)
 have h3:=λ q q'=>vE N (dg y.natAbs) (dg x.natAbs) q q' s2.1 s1.1 (by have:=s2.2;omega) (by have:=s1.2;omega)
 have n0:=λ q q'=>vD N (dg x.natAbs) (dg y.natAbs) q q' s1.1 s2.1 (by have:=s1.2;omega) (by have:=s2.2;omega)
 rw[EA,EA]at h1 h2 h3 n0;have u1:=λ n q=>O5 N n q (dg (x.natAbs+y.natAbs)) (s1.add s2 (by rw[EA,EA];omega))
 have u2:=λ n q=>O5 N n q (dg (x.natAbs-y.natAbs)) ((s1.low (V:=x.natAbs-y.natAbs) (by rw[EA];omega)).le (by omega))
 have u3:=λ n q=>O5 N n q (dg (y.natAbs-x.natAbs)) ((s2.low (V:=y.natAbs-x.natAbs) (by rw[EA];omega)).le (by omega))
 have e : ∀ n V,zv n (dg V)=bif n then -(V:Int) else (V:Int):=λ n V=>by unfold zv;rw[EA]
 refine Ev.x N.UO rfl rfl ?_;(repeat' ((first|apply A2|refine AP (t1 _) ?_|refine AP (t2 _) ?_)<;>conv=>whnf))
 cases hx:decide (x<0)<;>cases hy:decide (y<0)
 ·have g1:=of_decide_eq_false hx
  have g2:=of_decide_eq_false hy;have hz:x+y=zv false (dg (x.natAbs+y.natAbs)):=by rw[e];simp only[cond_true,cond_false];omega
  rw[hz];(conv=>whnf)
  (repeat' ((first|refine AP (h1 _ _) ?_|refine AP (u1 _ _) ?_)<;>conv=>whnf))
  exact BV rfl (HH _)
 ·have g1:=of_decide_eq_false hx
  have g2:=of_decide_eq_true hy;by_cases l7:x.natAbs<y.natAbs
  ·have hz:x+y=zv true (dg (y.natAbs-x.natAbs)):=by rw[e];simp only[cond_true,cond_false];omega
   rw[hz];rw[<-NT (by omega)]at n0;(conv=>whnf)
   (repeat' ((first|(apply A9<;>intro hc<;>try omega)|refine AP (n0 _ _) ?_|refine AP (h3 _ _) ?_|refine AP (u3 _ _) ?_)<;>conv=>whnf))
   exact BV rfl (HH _)
  ·have hz:x+y=zv false (dg (x.natAbs-y.natAbs)):=by rw[e];simp only[cond_true,cond_false];omega
   rw[hz];have ud:=nS (show y.natAbs<=x.natAbs by omega);generalize GS (x.natAbs:Nat) (y.natAbs:Nat)=cm at *;(conv=>whnf)
   (repeat' ((first|(apply A9<;>intro hc<;>try omega)|refine AP (n0 _ _) ?_|refine AP (h2 _ _) ?_|refine AP (u2 _ _) ?_)<;>conv=>whnf))
   exact BV rfl (HH _)
 ·have g1:=of_decide_eq_true hx
  have g2:=of_decide_eq_false hy;by_cases l7:x.natAbs<y.natAbs
  ·have hz:x+y=zv false (dg (y.natAbs-x.natAbs)):=by rw[e];simp only[cond_true,cond_false];omega
   rw[hz];rw[<-NT (by omega)]at n0;(conv=>whnf)
   (repeat' ((first|(apply A9<;>intro hc<;>try omega)|refine AP (n0 _ _) ?_|refine AP (h3 _ _) ?_|refine AP (u3 _ _) ?_)<;>conv=>whnf))
   exact BV rfl (HH _)
  ·have hz:x+y=zv true (dg (x.natAbs-y.natAbs)):=by rw[e];simp only[cond_true,cond_false];omega
   rw[hz];have ud:=nS (show y.natAbs<=x.natAbs by omega);generalize GS (x.natAbs:Nat) (y.natAbs:Nat)=cm at *;(conv=>whnf)
   (repeat' ((first|(apply A9<;>intro hc<;>try omega)|refine AP (n0 _ _) ?_|refine AP (h2 _ _) ?_|refine AP (u2 _ _) ?_)<;>conv=>whnf))
   exact BV rfl (HH _)
 ·have g1:=of_decide_eq_true hx
  have g2:=of_decide_eq_true hy;have hz:x+y=zv true (dg (x.natAbs+y.natAbs)):=by rw[e];simp only[cond_true,cond_false];omega
  rw[hz];(conv=>whnf)
  (repeat' ((first|refine AP (h1 _ _) ?_|refine AP (u1 _ _) ?_)<;>conv=>whnf))
  exact BV rfl (HH _)
theorem AmE (N:a6 L) (n1 n2 q1 q2:Bool) (a b:List Nat) (ha:Sm 274877906943 a) (hb:Sm 274877906943 b):Ev L 116 [.agg (rZ q1 n1 a),.agg (rZ q2 n2 b)] (.agg (eZ (zv n1 a-zv n2 b))):=by
 have t2:=λ q=>vF N n2 q b (hb.le (by omega))
 have s2:Sm 274877906943 (dg (-(zv n2 b)).natAbs):=by rw[Int.natAbs_neg,JG];exact hb.Bc
 have h1:=λ q q'=>Ac0 N n1 (decide (-(zv n2 b)<0)) q q' a (dg (-(zv n2 b)).natAbs) ha s2
 rw[J1,<-Int.sub_eq_add_neg]at h1;refine Ev.x N.UX rfl rfl ?_;(repeat' ((first|apply A2|refine AP (t2 _) ?_|refine AP (h1 _ _) ?_)<;>conv=>whnf))
 exact BV rfl (HH _)
theorem AmC (N:a6 L) (n1 n2 q1 q2:Bool) (a b:List Nat) (ha:Sm 274877906943 a) (hb:Sm 274877906943 b):Ev L 117 [.agg (rZ q1 n1 a),.agg (rZ q2 n2 b)] (.int .i64 (v9 (zv n1 a-zv n2 b))):=by
 have h1:=λ q q'=>AmE N n1 n2 q q' a b ha hb
 have s1:Sm 274877906943 (dg (zv n1 a).natAbs):=by rw[JG];exact ha.Bc
 have s2:Sm 274877906943 (dg (zv n2 b).natAbs):=by rw[JG];exact hb.Bc
 have s3:Sm 274877906944 (dg (zv n1 a-zv n2 b).natAbs):=s1.add s2 (by rw[EA,EA];omega);have h2:=λ q=>oO N (decide (zv n1 a-zv n2 b<0)) q (dg (zv n1 a-zv n2 b).natAbs) s3
 rw[J1]at h2;refine Ev.x N.UP rfl rfl ?_;(repeat' ((first|apply A2|refine AP (h1 _ _) ?_|refine AP (h2 _) ?_)<;>conv=>whnf))
 exact ET rfl
theorem vG (N:a6 L) (z:Int) (hz : -9223372036854775808<=z/\z<=9223372036854775807):Ev L 112 [.int .i64 z] (.agg (eZ z)):=by
 have two : ∀ k:Nat,k<18446744073709551616 -> ∀ n q,Ev L 111 [.agg [.bool n,.sl q [[.int .u32 ((k%4294967296:Nat):Int)],[.int .u32 ((k/4294967296:Nat):Int)]]]] (.agg (eZ (bif n then -(k:Int) else (k:Int)))):=λ k hk n q=>by
  have:=O5 N n q [k%4294967296,k/4294967296] ⟨(uA hk).2,by simp⟩
  unfold zv at this;rw[AgZ hk]at this;exact this
 refine Ev.x N.UU rfl rfl ?_;by_cases h0:0<=z
 ·obtain ⟨k,rfl⟩:=Int.eq_ofNat_of_zero_le h0
  have hT:=two k (by omega);(repeat' ((first|(apply A9<;>intro hc<;>try omega)|apply J2|(apply EM;omega)|(apply II;omega)|apply KQ|refine ON rfl rfl ?_|apply A2)<;>conv=>whnf))
  generalize k%4294967296=lo at *;generalize k/4294967296=hi at *;(repeat' (refine AP (hT _ _) ?_<;>conv=>whnf))
  exact BV rfl (HH _)
 ·obtain ⟨k,hk⟩:=Int.eq_ofNat_of_zero_le (show 0 <= -(z+1) by omega)
  have sz:z = -((k+1:Nat):Int):=by omega
  have hT:=two (k+1) (by omega);(repeat' ((first|(apply A9<;>intro hc<;>try omega)|(apply BG;omega)|apply sK|(apply FE.neg;omega)|(apply EM;omega)|apply A2)<;>conv=>whnf))
  rw[show IntKind.u64.wrap (-(z+1)+1)=((k+1:Nat):Int) by rw[IntWalk.u64_in _ (by omega)];omega];rw[sz];generalize k+1=k1 at *;(repeat' ((first|apply J2|(apply II;omega)|apply KQ|refine ON rfl rfl ?_)<;>conv=>whnf))
  generalize k1%4294967296=lo at *;generalize k1/4294967296=hi at *;(repeat' (refine AP (hT _ _) ?_<;>conv=>whnf))
  exact BV rfl (HH _)
theorem AmD (N:a6 L) (n1 n2 q1 q2:Bool) (a b:List Nat) (ha:Sm 274877906944 a) (hb:Sm 274877906944 b):Ev L 120 [.agg (rZ q1 n1 a),.agg (rZ q2 n2 b)] (.agg (eZ ((Nat.gcd (val a) (val b):Nat):Int))):=by
 have h1:=λ q q'=>Amy N a b q q' ha.1 hb.1 ha.2 hb.2
 refine Ev.x N.UR rfl rfl ?_;(repeat' ((first|apply A2|refine AP (h1 _ _) ?_)<;>conv=>whnf))
 exact BV (I0 (by omega) (LR (by omega))) (HH _)
theorem Alr (n1 n2:Bool) (A B:Nat) (hB:B≠0):(bif n1 then -(A:Int) else (A:Int))/(bif n2 then -(B:Int) else (B:Int))=(bif n1 != n2 then -((if n1=true/\A%B≠0 then A/B+1 else A/B:Nat):Int) else ((if n1=true/\A%B≠0 then A/B+1 else A/B:Nat):Int)) /\
  (bif n1 then -(A:Int) else (A:Int))%(bif n2 then -(B:Int) else (B:Int))=((if n1=true/\A%B≠0 then B-A%B else A%B:Nat):Int):=by
 have hBp:(0:Int)<B:=by omega
 have key : ∀ x:Int,x/(bif n2 then -(B:Int) else (B:Int))=(bif n2 then -(x/B) else x/B)/\x%(bif n2 then -(B:Int) else (B:Int))=x%B:=λ x=>by
  cases n2
  ·exact ⟨rfl,rfl⟩
  ·exact ⟨Int.ediv_neg x B,Int.emod_neg x B⟩
 rw[(key _).1,(key _).2];cases n1
 ·have h1:((A:Int))/B=((A/B:Nat):Int):=by simp
  have h2:((A:Int))%B=((A%B:Nat):Int):=by simp
  simp only[cond_false,h1,h2];cases n2<;>simp
 ·have hd:=Nat.div_add_mod A B
  have l7:=Nat.mod_lt A (show B>0 by omega);by_cases h0:A%B=0
  ·have e : -(A:Int)=(B:Int)*(-((A/B:Nat):Int)):=by
    rw[h0,Nat.add_zero]at hd;rw[Int.mul_neg,<-Int.natCast_mul,hd]
   have h1 : -(A:Int)/B = -((A/B:Nat):Int):=by rw[e,Int.mul_ediv_cancel_left _ (by omega)]
   have h2 : -(A:Int)%B=0:=by rw[e,Int.mul_emod_right]
   simp only[cond_true,h1,h2,h0];cases n2<;>simp
  ·have e : -(A:Int)=(B:Int)*(-((A/B+1:Nat):Int))+((B-A%B:Nat):Int):=by
    have h3:(B:Int)*((A/B:Nat):Int)+((A%B:Nat):Int)=A:=by rw[<-Int.natCast_mul,<-Int.natCast_add,hd]
    rw[Int.mul_neg,Int.natCast_add,Int.mul_add];omega
   have h1 : -(A:Int)/B = -((A/B+1:Nat):Int):=by
    rw[e,Int.mul_add_ediv_left _ _ (by omega),Int.ediv_eq_zero_of_lt (by omega) (by omega),Int.add_zero]
   have h2 : -(A:Int)%B=((B-A%B:Nat):Int):=by
    rw[e,Int.mul_add_emod_self_left,Int.emod_eq_of_lt (by omega) (by omega)]
   simp only[cond_true,h1,h2];cases n2<;>simp [h0]
theorem Ac1 (N:a6 L) (n1 n2 q1 q2:Bool) (a b:List Nat) (ha:Sm 274877906943 a) (hb:Sm 274877906943 b) (h0:zv n2 b≠0):Ev L 119 [.agg (rZ q1 n1 a),.agg (rZ q2 n2 b)] (.g8 [.agg (eZ (zv n1 a/zv n2 b)),.agg (eZ (zv n1 a%zv n2 b)),.int .i64 0]):=by
 have t1:=λ q=>O5 N n1 q a (ha.le (by omega))
 have t2:=λ q=>O5 N n2 q b (hb.le (by omega))
 have s1:Sm 274877906943 (dg (zv n1 a).natAbs):=by rw[JG];exact ha.Bc
 have s2:Sm 274877906943 (dg (zv n2 b).natAbs):=by rw[JG];exact hb.Bc
 generalize zv n1 a=x at *;generalize zv n2 b=y at *;have Ho:=λ q q'=>AcY N (dg x.natAbs) (dg y.natAbs) q q' s1.1 s2.1 (by have:=s1.2;omega) (by have:=s2.2;omega) (by rw[EA];omega)
 rw[EA,EA]at Ho;obtain ⟨e1,e2⟩:=Alr (decide (x<0)) (decide (y<0)) x.natAbs y.natAbs (by omega);have hx:(bif decide (x<0) then -(x.natAbs:Int) else (x.natAbs:Int))=x:=by have:=J1 x;unfold zv at this;rw[EA]at this;exact this
 have hy:(bif decide (y<0) then -(y.natAbs:Int) else (y.natAbs:Int))=y:=by have:=J1 y;unfold zv at this;rw[EA]at this;exact this
 rw[hx,hy]at e1 e2;rw[e1,e2];have l1:=s1.2;have l2:=s2.2;have hq:Sm 274877906943 (dg (x.natAbs/y.natAbs)):=s1.low (by rw[EA];exact Nat.div_le_self _ _);have hr:Sm 274877906943 (dg (x.natAbs%y.natAbs)):=s2.low (by rw[EA];exact Nat.le_of_lt (Nat.mod_lt _ (by omega)));have hrz:=NV (x.natAbs%y.natAbs);have od:Ev L 103 [.sl false ((dg (x.natAbs/y.natAbs)).map BF),.sl true [[.int .u32 1]]] (.sl false ((dg (x.natAbs/y.natAbs+1)).map BF)):=by
  have:=AcX N (dg (x.natAbs/y.natAbs)) [1] false true (HW _) (MS (by omega)) (by have:=hq.2;omega) (by simp)
  rw[EA,show val [1]=1 from rfl]at this;exact this
 have Ec:Sm 274877906944 (dg (x.natAbs/y.natAbs+1)):=hq.add (b:=[1]) (zJ (by omega) (by omega)) (by rw[EA];simp [val]);have Cn:=λ q q'=>vE N (dg y.natAbs) (dg (x.natAbs%y.natAbs)) q q' s2.1 hr.1 (by omega) (by have:=hr.2;omega)
 rw[EA,EA]at Cn;have u1:=λ n q=>O5 N n q (dg (x.natAbs/y.natAbs)) (hq.le (by omega))
 have u2:=λ n q=>O5 N n q (dg (x.natAbs/y.natAbs+1)) Ec
 have ez : ∀ n V,zv n (dg V)=bif n then -(V:Int) else (V:Int):=λ n V=>by unfold zv;rw[EA]
 have fin : ∀ (z:Int) (V:Nat),BC (.g8 [.agg (eZ z),.agg [.bool false,.sl false ((dg V).map BF)],.int .i64 0]) (.g8 [.agg (eZ z),.agg (eZ (V:Int)),.int .i64 0]):=λ z V=>by
  have e3:AV.agg (eZ (V:Int)) = .agg [.bool false,.sl false ((dg V).map BF)]:=(I0 (by omega) (LR (by omega))).symm;rw[e3];refine BV rfl ?_;simp only[B3,EC,and_true,true_and];exact ⟨GC _,GC _⟩
 clear e1 e2 hx hy;generalize x.natAbs/y.natAbs=qq at *;generalize x.natAbs%y.natAbs=rr at *;refine Ev.x N.UQ rfl rfl ?_;(repeat' ((first|(apply A9<;>intro hc<;>try omega)|apply A2|refine AP (t1 _) ?_|refine AP (t2 _) ?_|refine AP (Ho _ _) ?_)<;>conv=>whnf))
 generalize decide (x<0)=p at *;generalize decide (y<0)=r at *;cases p
 ·rw[if_neg (by simp),if_neg (by simp),<-ez]
  cases r;all_goals
   (conv=>whnf)
   (repeat' (refine AP (u1 _ _) ?_<;>conv=>whnf))
   exact fin _ _
 ·by_cases sj:rr=0
  ·rw[if_neg (by simp [sj]),if_neg (by simp [sj]),<-ez]
   cases r;all_goals
    (conv=>whnf)
    (repeat' ((first|(apply A9<;>intro hc<;>try omega)|apply BT|refine AP (u1 _ _) ?_)<;>conv=>whnf))
    exact fin _ _
  ·rw[if_pos ⟨rfl,sj⟩,if_pos ⟨rfl,sj⟩,<-ez]
   cases r;all_goals
    (conv=>whnf)
    (repeat' ((first|(apply A9<;>intro hc<;>try omega)|apply BT|refine J4 rfl ?_|refine AP (od) ?_|refine AP (Cn _ _) ?_|refine AP (u2 _ _) ?_)<;>conv=>whnf))
    exact fin _ _
theorem AbQ:dg 1=[1]:=by rw[OR (by omega)];simp [JL]
theorem Xx:AV.agg [.bool false,.sl false [],.sl false [[.int .u32 1]]] = .agg (eQ 0):=by
 show _=AV.agg (rQ _ _ _ _ _);rw[Rat.zero_num,Rat.zero_den,AbQ,show (0:Int).natAbs=0 from rfl,JL];rfl
theorem Akt {x y:Int} (hy:y≠0):(Rat.divInt x y).num=(if y<0 then -(x/((Nat.gcd x.natAbs y.natAbs:Nat):Int)) else x/((Nat.gcd x.natAbs y.natAbs:Nat):Int))/\(Rat.divInt x y).den=(y/((Nat.gcd x.natAbs y.natAbs:Nat):Int)).natAbs:=by
 have h1:=Rat.num_divInt x y;have h2:=Rat.den_divInt x y;rw[if_neg hy]at h2;have hg:Int.gcd y x=Nat.gcd x.natAbs y.natAbs:=by rw[Int.gcd,Nat.gcd_comm]
 rw[hg]at h1 h2;have Up:0<Nat.gcd x.natAbs y.natAbs:=Nat.gcd_pos_of_pos_right _ (by omega);have dx:((Nat.gcd x.natAbs y.natAbs:Nat):Int) ∣ x:=Int.ofNat_dvd_left.2 (Nat.gcd_dvd_left _ _);have dy:((Nat.gcd x.natAbs y.natAbs:Nat):Int) ∣ y:=Int.ofNat_dvd_left.2 (Nat.gcd_dvd_right _ _);generalize Nat.gcd x.natAbs y.natAbs=g at *;rw[h1,h2];obtain ⟨u,rfl⟩:=dx;obtain ⟨v,rfl⟩:=dy;have Fv:(g:Int)≠0:=by omega
 refine ⟨?_,?_⟩
 ·rw[Int.mul_ediv_cancel_left _ Fv]
  split
  ·rename_i h
   rw[Int.sign_eq_neg_one_of_neg h,show -1*((g:Int)*u)=g*(-u) by rw[Int.mul_neg];omega,Int.mul_ediv_cancel_left _ Fv]
  ·rw[Int.sign_eq_one_of_pos (by omega),Int.one_mul,Int.mul_ediv_cancel_left _ Fv]
 ·rw[Int.mul_ediv_cancel_left _ Fv,Int.natAbs_mul,Int.natAbs_natCast,Nat.mul_div_cancel_left _ Up]
theorem oT (N:a6 L) (n1 n2 q1 q2:Bool) (a b:List Nat) (ha:Sm 274877906943 a) (hb:Sm 274877906943 b):Ev L 121 [.agg (rZ q1 n1 a),.agg (rZ q2 n2 b)] (.agg (eQ (Rat.divInt (zv n1 a) (zv n2 b)))):=by
 have t1:=λ q=>oO N n1 q a (ha.le (by omega))
 have t2:=λ q=>oO N n2 q b (hb.le (by omega))
 by_cases h1:zv n1 a=0
 ·rw[h1,Rat.zero_divInt,<-Xx]
  rw[h1,<-qV rfl]at t1;refine Ev.x N.N5 rfl rfl ?_;(repeat' ((first|(apply A9<;>intro hc<;>try omega)|refine J4 rfl ?_|apply A2|refine AP (t1 _) ?_)<;>conv=>whnf))
  exact BV rfl (nP false [] [1])
 have s1:v9 (zv n1 a)≠0:=by unfold v9;split<;>(try split)<;>omega
 by_cases h2:zv n2 b=0
 ·rw[h2,Rat.divInt_zero,<-Xx]
  rw[h2,<-qV rfl]at t2;generalize v9 (zv n1 a)=sg at *;refine Ev.x N.N5 rfl rfl ?_;(repeat' ((first|(apply A9<;>intro hc<;>try omega)|refine J4 rfl ?_|apply A2|refine AP (t1 _) ?_|refine AP (t2 _) ?_)<;>conv=>whnf))
  exact BV rfl (nP false [] [1])
 have s2:v9 (zv n2 b)≠0:=by unfold v9;split<;>(try split)<;>omega
 obtain ⟨p1,p2⟩:=Akt (x:=zv n1 a) h2;have hG:=λ q q'=>AmD N n1 n2 q q' a b (ha.le (by omega)) (hb.le (by omega))
 have hle:Nat.gcd (val a) (val b)<=val b:=Nat.gcd_le_right _ (by have:=JG n2 b;omega);have Up:0<Nat.gcd (val a) (val b):=Nat.gcd_pos_of_pos_right _ (by have:=JG n2 b;omega);have sg:Sm 274877906943 (dg (Nat.gcd (val a) (val b))):=hb.low hle;rw[JG,JG]at p1 p2;have hgf:decide (((Nat.gcd (val a) (val b):Nat):Int)<0)=false:=by simp
 have sg':Sm 274877906943 (dg (((Nat.gcd (val a) (val b):Nat):Int)).natAbs):=by rw[Int.natAbs_natCast];exact sg
 have zg:zv (decide (((Nat.gcd (val a) (val b):Nat):Int)<0)) (dg (((Nat.gcd (val a) (val b):Nat):Int)).natAbs)=((Nat.gcd (val a) (val b):Nat):Int):=J1 _;have yh:=λ q q'=>Ac1 N n1 _ q q' a _ ha sg' (by rw[zg];omega)
 have ny:=λ q q'=>Ac1 N n2 _ q q' b _ hb sg' (by rw[zg];omega)
 rw[zg]at yh ny;have zo:Sm 274877906943 (dg (zv n1 a/((Nat.gcd (val a) (val b):Nat):Int)).natAbs):=ha.low (by
  have:(zv n1 a/((Nat.gcd (val a) (val b):Nat):Int)).natAbs<=(zv n1 a).natAbs:=Int.natAbs_ediv_le_natAbs _ _
  rw[JG]at this;exact this)
 have Fv:0<((Nat.gcd (val a) (val b):Nat):Int):=by omega
 generalize ((Nat.gcd (val a) (val b):Nat):Int)=g at *;generalize zv n1 a=x at *;generalize zv n2 b=y at *;generalize v9 x=sx at *;generalize v9 y=sy at *;have hN:=λ q=>vF N (decide (x/g<0)) q (dg (x/g).natAbs) (zo.le (by omega))
 rw[J1]at hN;have Pr:decide (y/g<0)=decide (y<0):=by
  congr 1;rw[eq_iff_iff,Int.ediv_lt_iff_lt_mul (by omega),Int.zero_mul]
 refine Ev.x N.N5 rfl rfl ?_;(repeat' ((first|(apply A9<;>intro hc<;>try omega)|apply A2|refine AP (t1 _) ?_|refine AP (t2 _) ?_|refine AP (hG _ _) ?_|refine AP (yh _ _) ?_|refine AP (ny _ _) ?_)<;>conv=>whnf))
 cases hyn:decide (y/g<0)
 ·rw[hyn]at Pr
  rw[if_neg (of_decide_eq_false Pr.symm)]at p1;(conv=>whnf)
  skip
  refine BV ?_ (GD _);show _=AV.agg (rQ _ _ _ _ _);rw[p1,p2]
 ·rw[hyn]at Pr
  rw[if_pos (of_decide_eq_true Pr.symm)]at p1;(conv=>whnf)
  (repeat' (refine AP (hN _) ?_<;>conv=>whnf))
  refine BV ?_ (GD _);show _=AV.agg (rQ _ _ _ _ _);rw[p1,p2]
theorem Akv {z:Int} {d:List Nat}:Rat.divInt z (zv false d)=mkRat z (val d):=by rw[I7,Rat.divInt_ofNat]
def Ais (n:Bool) (m d:List Nat) (n':Bool) (m' d':List Nat) (k:Nat):Prop:=Sm k m'/\Sm k d'/\val d'≠0/\qv n m d=mkRat (zv n' m') (val d')
theorem Abp (n:Bool) (m d:List Nat):B3 (.g8 [.agg (rZ false n m),.agg (rZ false false d)]):=by
 simp only[B3,EC,and_true,true_and];exact ⟨GC _,GC _⟩
theorem ZY (N:a6 L) (n q:Bool) (m d:List Nat) (k:Nat) (hk:1<=k/\k<=274877906943) (hm:Sm k m) (hd:Sm k d) : ∃ n' m' d',Ev L 122 [.agg (rQ false q n m d)] (.g8 [.agg (rZ false n' m'),.agg (rZ false false d')])/\Ais n m d n' m' d' k:=by
 have t1:=λ q=>K3 N d q hd.1 (by have:=hd.2;omega)
 have hl:=NV (val d);by_cases h0:val d=0
 ·refine ⟨false,[],[1],?_,AfW _,zJ hk.1 (by omega),by decide,by unfold qv;rw[h0,Rat.mkRat_zero,Aho,Rat.zero_mkRat]⟩
  refine Ev.x N.PG rfl rfl ?_;(repeat' ((first|(apply A9<;>intro hc<;>try omega)|apply BT|refine J4 rfl ?_|apply A2|refine AP (t1 _) ?_)<;>conv=>whnf))
  exact BV rfl (Abp false [] [1])
 ·refine ⟨n,m,dg (val d),?_,hm,hd.Bc,by rw[EA];exact h0,by rw[EA];rfl⟩
  refine Ev.x N.PG rfl rfl ?_;(repeat' ((first|(apply A9<;>intro hc<;>try omega)|apply BT|apply A2|refine AP (t1 _) ?_)<;>conv=>whnf))
  exact BV rfl (Abp _ _ _)
theorem AmJ (N:a6 L) (n q:Bool) (m d:List Nat) (hm:Sm 274877906943 m) (hd:Sm 274877906943 d):Ev L 123 [.agg (rQ false q n m d)] (.agg (eQ (qv n m d))):=by
 obtain ⟨n',m',d',hp,s1,s2,s3,s4⟩:=ZY N n q m d 274877906943 (by omega) hm hd;have hr:=λ q q'=>oT N n' false q q' m' d' s1 s2
 rw[Akv,<-s4]at hr;refine Ev.x N.U8 rfl rfl ?_;(repeat' ((first|apply A2|refine AP (hp) ?_|refine AP (hr _ _) ?_)<;>conv=>whnf))
 exact BV rfl (GD _)
theorem Ai9 (z:Int):AV.agg [.bool (decide (z<0)),.sl false ((dg z.natAbs).map BF),.sl false [[.int .u32 1]]] = .agg (eQ (z:Rat)):=by
 show _=AV.agg (rQ _ _ _ _ _);rw[Rat.num_intCast,Rat.den_intCast,AbQ];rfl
theorem O6 (N:a6 L) (z:Int) (hz : -9223372036854775808<=z/\z<=9223372036854775807):Ev L 124 [.int .i64 z] (.agg (eQ (z:Rat))):=by
 have h1:=vG N z hz;refine Ev.x N.U5 rfl rfl ?_;(repeat' ((first|refine J4 rfl ?_|apply A2|refine AP (h1) ?_)<;>conv=>whnf))
 exact BV (Ai9 z) (GD _)
theorem AfX {z:Int} (hz : -9223372036854775808<=z/\z<=9223372036854775808):Sm 2 (dg z.natAbs):=Sm.dg (by omega)
theorem oP (N:a6 L) (x y:Int) (hx : -9223372036854775808<=x/\x<=9223372036854775807) (hy : -9223372036854775808<=y/\y<=9223372036854775807):Ev L 125 [.int .i64 x,.int .i64 y] (.agg (eQ (Rat.divInt x y))):=by
 have h1:=vG N x hx;have h2:=vG N y hy;have hr:=λ q q'=>oT N (decide (x<0)) (decide (y<0)) q q' _ _ ((AfX (z:=x) (by omega)).le (by omega)) ((AfX (z:=y) (by omega)).le (by omega))
 rw[J1,J1]at hr;refine Ev.x N.U2 rfl rfl ?_;(repeat' ((first|apply A2|refine AP (h1) ?_|refine AP (h2) ?_|refine AP (hr _ _) ?_)<;>conv=>whnf))
 exact BV rfl (GD _)
theorem dB {k l:Nat} {n1 n2:Bool} {a b:List Nat} (ha:Sm k a) (hb:Sm l b):Sm (k+l) (dg (zv n1 a*zv n2 b).natAbs):=ha.mul hb (by rw[Int.natAbs_mul,JG,JG])
theorem AqD {k:Nat} {x y:Int} (ha:Sm k (dg x.natAbs)) (hb:Sm k (dg y.natAbs)):Sm (k+1) (dg (x+y).natAbs):=ha.add hb (by rw[EA,EA];omega)
theorem AmG (N:a6 L) (k:Nat) (hk:1<=k/\k<=68719476736) (n1 n2 q2 q4:Bool) (m1 d1 m2 d2:List Nat) (ki:Sm k m1) (qi:Sm k d1) (er:Sm k m2) (va:Sm k d2) :
  Ev L 126 [.agg (rQ false q2 n1 m1 d1),.agg (rQ false q4 n2 m2 d2)] (.agg (eQ (qv n1 m1 d1+qv n2 m2 d2))):=by
 obtain ⟨a1,a2,a3,gd,s1,s2,s3,s5⟩:=ZY N n1 q2 m1 d1 k (by omega) ki qi;obtain ⟨b1,b2,b3,ct,t1,t2,t3,t5⟩:=ZY N n2 q4 m2 d2 k (by omega) er va;have l1:=s1.2;have l2:=s2.2;have l3:=t1.2;have l4:=t2.2;rw[s5,t5,pR s3 t3,<-I7 b3,<-I7 a3];have ju:=λ q q'=>bR N a1 false q q' a2 b3 s1.1 t2.1 (by omega)
 have nb:=λ q q'=>bR N b1 false q q' b2 a3 t1.1 s2.1 (by omega)
 have vq:=λ q q'=>bR N false false q q' a3 b3 s2.1 t2.1 (by omega)
 have g1:Sm (k+k) (dg (zv a1 a2*zv false b3).natAbs):=dB s1 t2;have g2:Sm (k+k) (dg (zv b1 b2*zv false a3).natAbs):=dB t1 s2;have g3:=AqD g1 g2;have g4:Sm (k+k) (dg (zv false a3*zv false b3).natAbs):=dB s2 t2;have hA:=λ q q'=>Ac0 N (decide (zv a1 a2*zv false b3<0)) (decide (zv b1 b2*zv false a3<0)) q q' _ _ (g1.le (by omega)) (g2.le (by omega))
 rw[J1,J1]at hA;have hR:=λ q q'=>oT N (decide (zv a1 a2*zv false b3+zv b1 b2*zv false a3<0)) (decide (zv false a3*zv false b3<0)) q q' _ _ (g3.le (by omega)) (g4.le (by omega))
 rw[J1,J1,show zv false a3*zv false b3=((val a3*val b3:Nat):Int) by rw[I7,I7];simp,Rat.divInt_ofNat]at hR;rw[show zv false a3*zv false b3=((val a3*val b3:Nat):Int) by rw[I7,I7];simp]at vq;refine Ev.x N.U0 rfl rfl ?_;(repeat' ((first|apply A2|refine AP (gd) ?_|refine AP (ct) ?_|refine AP (ju _ _) ?_|refine AP (nb _ _) ?_|refine AP (hA _ _) ?_|refine AP (vq _ _) ?_|refine AP (hR _ _) ?_)<;>conv=>whnf))
 exact BV rfl (GD _)
theorem AmI (N:a6 L) (k:Nat) (hk:1<=k/\k<=68719476736) (n1 n2 q2 q4:Bool) (m1 d1 m2 d2:List Nat) (ki:Sm k m1) (qi:Sm k d1) (er:Sm k m2) (va:Sm k d2) :
  Ev L 128 [.agg (rQ false q2 n1 m1 d1),.agg (rQ false q4 n2 m2 d2)] (.agg (eQ (qv n1 m1 d1*qv n2 m2 d2))):=by
 obtain ⟨a1,a2,a3,gd,s1,s2,s3,s5⟩:=ZY N n1 q2 m1 d1 k (by omega) ki qi;obtain ⟨b1,b2,b3,ct,t1,t2,t3,t5⟩:=ZY N n2 q4 m2 d2 k (by omega) er va;have l1:=s1.2;have l2:=s2.2;have l3:=t1.2;have l4:=t2.2;rw[s5,t5,xI];have ju:=λ q q'=>bR N a1 b1 q q' a2 b2 s1.1 t1.1 (by omega)
 have vq:=λ q q'=>bR N false false q q' a3 b3 s2.1 t2.1 (by omega)
 have g1:Sm (k+k) (dg (zv a1 a2*zv b1 b2).natAbs):=dB s1 t1;have g4:Sm (k+k) (dg (zv false a3*zv false b3).natAbs):=dB s2 t2;have hR:=λ q q'=>oT N (decide (zv a1 a2*zv b1 b2<0)) (decide (zv false a3*zv false b3<0)) q q' _ _ (g1.le (by omega)) (g4.le (by omega))
 rw[J1,J1,show zv false a3*zv false b3=((val a3*val b3:Nat):Int) by rw[I7,I7];simp,Rat.divInt_ofNat]at hR;rw[show zv false a3*zv false b3=((val a3*val b3:Nat):Int) by rw[I7,I7];simp]at vq;refine Ev.x N.U3 rfl rfl ?_;(repeat' ((first|apply A2|refine AP (gd) ?_|refine AP (ct) ?_|refine AP (ju _ _) ?_|refine AP (vq _ _) ?_|refine AP (hR _ _) ?_)<;>conv=>whnf))
 exact BV rfl (GD _)
theorem AeK {a b:Int} {d e:Nat} (hd:d≠0) (he:e≠0):v9 (a*e-b*d)=v9 (mkRat a d-mkRat b e).num:=by
 have h:mkRat a d-mkRat b e=mkRat (a*e-b*d) (d*e):=by
  rw[Rat.sub_eq_add_neg,Rat.neg_mkRat,pR hd he,Int.neg_mul,<-Int.sub_eq_add_neg]
 rw[h,AeM (Nat.mul_ne_zero hd he)]
theorem AmH (N:a6 L) (k:Nat) (hk:1<=k/\k<=68719476736) (n1 n2 q2 q4:Bool) (m1 d1 m2 d2:List Nat) (ki:Sm k m1) (qi:Sm k d1) (er:Sm k m2) (va:Sm k d2) :
  Ev L 127 [.agg (rQ false q2 n1 m1 d1),.agg (rQ false q4 n2 m2 d2)] (.int .i64 (v9 (qv n1 m1 d1-qv n2 m2 d2).num)):=by
 obtain ⟨a1,a2,a3,gd,s1,s2,s3,s5⟩:=ZY N n1 q2 m1 d1 k (by omega) ki qi;obtain ⟨b1,b2,b3,ct,t1,t2,t3,t5⟩:=ZY N n2 q4 m2 d2 k (by omega) er va;have l1:=s1.2;have l2:=s2.2;have l3:=t1.2;have l4:=t2.2;rw[s5,t5,<-AeK s3 t3,<-I7 b3,<-I7 a3];have ju:=λ q q'=>bR N a1 false q q' a2 b3 s1.1 t2.1 (by omega)
 have nb:=λ q q'=>bR N b1 false q q' b2 a3 t1.1 s2.1 (by omega)
 have g1:Sm (k+k) (dg (zv a1 a2*zv false b3).natAbs):=dB s1 t2;have g2:Sm (k+k) (dg (zv b1 b2*zv false a3).natAbs):=dB t1 s2;have hC:=λ q q'=>AmC N (decide (zv a1 a2*zv false b3<0)) (decide (zv b1 b2*zv false a3<0)) q q' _ _ (g1.le (by omega)) (g2.le (by omega))
 rw[J1,J1]at hC;refine Ev.x N.U1 rfl rfl ?_;(repeat' ((first|apply A2|refine AP (gd) ?_|refine AP (ct) ?_|refine AP (ju _ _) ?_|refine AP (nb _ _) ?_|refine AP (hC _ _) ?_)<;>conv=>whnf))
 exact ET rfl
theorem Bt.rj {k:Nat} {x:Rat} (h:Bt k x) (hk:k<2199023255552):Sm 68719476736 (dg x.num.natAbs)/\Sm 68719476736 (dg x.den):=h.dig (by omega)
theorem YK (N:a6 L) {x y:Rat} {k l:Nat} (hx:Bt k x) (hy:Bt l y) (hk:k<2199023255552) (hl:l<2199023255552):Ev L 126 [.agg (eQ x),.agg (eQ y)] (.agg (eQ (x+y))):=by
 have:=AmG N 68719476736 (by omega) (decide (x.num<0)) (decide (y.num<0)) false false _ _ _ _ (hx.rj hk).1 (hx.rj hk).2 (hy.rj hl).1 (hy.rj hl).2
 rw[JS,JS]at this;exact this
theorem bQ (N:a6 L) {x y:Rat} {k l:Nat} (hx:Bt k x) (hy:Bt l y) (hk:k<2199023255552) (hl:l<2199023255552):Ev L 128 [.agg (eQ x),.agg (eQ y)] (.agg (eQ (x*y))):=by
 have:=AmI N 68719476736 (by omega) (decide (x.num<0)) (decide (y.num<0)) false false _ _ _ _ (hx.rj hk).1 (hx.rj hk).2 (hy.rj hl).1 (hy.rj hl).2
 rw[JS,JS]at this;exact this
theorem Adc (N:a6 L) {x:Rat} {k:Nat} (hx:Bt k x) (hk:k<2199023255552):Ev L 123 [.agg (eQ x)] (.agg (eQ x)):=by
 have:=AmJ N (decide (x.num<0)) false _ _ ((hx.rj hk).1.le (by omega)) ((hx.rj hk).2.le (by omega))
 rw[JS]at this;exact this
theorem oL (N:a6 L) {x y:Rat} {k l:Nat} (hx:Bt k x) (hy:Bt l y) (hk:k<2199023255552) (hl:l<2199023255552):Ev L 127 [.agg (eQ x),.agg (eQ y)] (.int .i64 (v9 (x-y).num)):=by
 have:=AmH N 68719476736 (by omega) (decide (x.num<0)) (decide (y.num<0)) false false _ _ _ _ (hx.rj hk).1 (hx.rj hk).2 (hy.rj hl).1 (hy.rj hl).2
 rw[JS,JS]at this;exact this
theorem AfP {x y:Rat}:v9 (x-y).num=0↔x=y:=by
 have h:v9 (x-y).num=0↔(x-y).num=0:=by unfold v9;split<;>(try split)<;>omega
 rw[h,Rat.num_eq_zero];constructor
 ·intro h;grind
 ·rintro rfl;exact Rat.sub_self
theorem Aml (N:de L) {x:Rat} {k:Nat} (hx:Bt k x) (hk:k<2199023255552):Ev L 152 [.agg (eQ x)] (.agg (eQ (-x))):=by
 have hT:=Adc N.toa6 hx hk;have hN:=λ q=>vF N.toa6 (decide (x.num<0)) q (dg x.num.natAbs) ((hx.rj hk).1.le (by omega))
 rw[J1]at hN;refine Ev.x N.U4 rfl rfl ?_;(repeat' ((first|apply A2|refine AP (hT) ?_|refine AP (hN _) ?_)<;>conv=>whnf))
 refine BV ?_ (GD _);show _=AV.agg (rQ _ _ _ _ _);rw[Rat.neg_num,Rat.neg_den]
def NB (l:List Rat):Nat->Nat
 | 0=>0
 | n+1=>if l.getD n 0=0 then NB l n else n+1
theorem jH (l:List Rat) : ∀ n,NB l n<=n
 | 0=>Nat.le_refl _
 | n+1=>by rw[NB];split;exact Nat.le_succ_of_le (jH l n);exact Nat.le_refl _
def aI (l:List Rat):List Rat:=l.take (NB l l.length)
theorem AgK (l:List Rat):(aI l).length=NB l l.length:=by rw[aI,List.length_take];exact Nat.min_eq_left (jH _ _)
end Go.b8

namespace Go.b8
open F
theorem AlF {L:Lib} {f:Nat} {fn:AFn} {vs:List AV} {own n6:BD} {r:AV} (hL:L f=some fn) (Ci:NS fn.body=true) (h:LU L f vs own r n6):n6=own:=by
 obtain ⟨n,h⟩:=h;cases n with
 | zero=>simp [HI]at h
 | succ n =>
  rw[jR]at h;simp only[hL]at h;split at h
  ·split at h
   ·rename_i st j8
    split at h
    ·simp only[Option.some.injEq,Prod.mk.injEq]at h
     rw[<-h.2];exact OA n (by simp [YT,Ci]) j8
    ·cases h
   ·cases h
  ·cases h
attribute [local irreducible] AJ A3 BU AU FE BR C1 CK DS DE FA G7 DR B2 EH E5 AL CQ BC pw FM E2 F7 G8 GX EG FK EE FZ
set_option maxHeartbeats 1000000
variable {L:Lib}
theorem Akb (N:c7 L) (l:List Nat) (s:Nat) (hD:B9 l) (hl:l.length<=1099511627776):CQ L 65 [.row 5 0 1 0 l.length] [(0,.row 5 0 1 0 l.length)] [(5,s,.rw 1 (l.map BF))] (λ r _=>r = .row 5 0 1 0 (dg (val l)).length):=by
 have hlen : ∀ n,n<=l.length->l.take n=dg (val l)->n=(dg (val l)).length:=λ n h1 h2=>by
  rw[<-h2,List.length_take];omega
 refine LE 1000 N.KN rfl rfl ?_;(repeat' (apply A2<;>conv=>whnf))
 refine G5 (λ n=>n) (λ(n:Nat)=>n<=l.length /\ ∀ i,n<=i->i<l.length->l[i]? = some 0) (λ n=>[(3,.int .i64 n)]) (λ_=>[]) l.length ⟨Nat.le_refl _,λ i h1 h2=>by omega⟩ ?_;intro n ⟨p1,p2⟩ ih;rcases n with _|n
 ·(repeat' ((first|(apply A9<;>intro hc<;>try omega)|apply A2)<;>conv=>whnf))
  refine L6 0 (by omega) (by omega) ?_;(conv=>whnf)
  refine ⟨rfl,_,rfl,?_⟩;rw[<-hlen 0 p1 (LH hD p1 p2 (Or.inl rfl))];rfl
 ·have e1:((n+1:Nat):Int)-1=n:=by omega
  (repeat' ((first|(apply A9<;>intro hc<;>try omega)|(apply B5;omega)|(apply DQ;omega)|(refine aU (by assumption) ?_ (λ v hv hb => ?_);omega)|apply A2)<;>conv=>whnf))
  ·rw[e1]
   exact CZ [] (ih n (by omega) ⟨by omega,λ i h1 h2=>by
    by_cases h:i=n
    ·subst h
     rw[e1,Int.toNat_natCast]at hv;rw[hv];congr 1;omega
    ·exact p2 i (by omega) h2⟩)
  ·refine L6 (n+1) (by omega) (by omega) ?_
   (conv=>whnf)
   refine ⟨rfl,_,rfl,?_⟩;rw[e1,Int.toNat_natCast]at hv;rw[<-hlen (n+1) p1 (LH hD p1 p2 (Or.inr ⟨_,hv,by omega⟩))];rfl
theorem Aka (N:c7 L) (l:List Nat) (s t:Nat) (own:BD) (hD:B9 l) (hl:l.length<=1099511627776) (hb:(own s).c9 t=some ⟨1,l.map BF⟩) (ht:t<(own s).j5) (nz:J9 s=true):LU L 65 [.row s t 1 0 l.length] own (.row s t 1 0 (dg (val l)).length) own:=by
 have hs:NP (λ_ _=>(s,t)) own [(5,s,.rw 1 (l.map BF))]:=by
  have key : ∀ k u c,b9 [(5,s,C3.rw 1 (l.map BF))] k u=some c->k=5/\u=0/\c = .rw 1 (l.map BF):=λ k u c e=>by
   simp only[b9,c4]at e;cases hk:Nat.beq k 5<;>simp only[hk,cond_true,cond_false]at e
   ·cases e
   ·cases u with
    | zero=>simp only[Option.some.injEq]at e;exact ⟨Nat.eq_of_beq_eq_true hk,rfl,e.symm⟩
    | succ u=>cases e
  refine ⟨λ k s' c e => ?_,λ k u c e => ?_,λ k u c e=>ht,λ k u k' u' c c' e e' _ => ?_,λ_ _ _ _ _=>nz⟩
  ·simp only[c4]at e
   cases hk:Nat.beq k 5<;>simp only[hk,cond_true,cond_false]at e
   ·cases e
   ·simp only[Option.some.injEq,Prod.mk.injEq]at e;exact e.1
  ·obtain ⟨_,_,rfl⟩:=key k u c e
   exact hb
  ·obtain ⟨rfl,rfl,_⟩:=key k u c e
   obtain ⟨rfl,rfl,_⟩:=key k' u' c' e';exact ⟨rfl,rfl⟩
 have hw:=Akb N l s hD hl;unfold CQ at hw;obtain ⟨r,n6,σ',M',h1,h2,h3,rfl⟩:=hw _ own hs;have ho:=AlF N.KN (by decide +kernel) h1;subst ho;have h4:AV.row (σ' 5 0).1 (σ' 5 0).2 1 0 l.length=AV.row s t 1 0 l.length:=h3 0;simp only[AV.row.injEq]at h4;have h5:LU L 65 [.row s t 1 0 l.length] n6 (.row (σ' 5 0).1 (σ' 5 0).2 1 0 (dg (val l)).length) n6:=h1;rw[h4.1,h4.2.1]at h5;exact h5
theorem mL (N:c7 L) {l:List Nat} {tm:Tm} {M:Mem} {K:AV->Mem->Prop} {key s len:Nat} (hD:B9 l) (hl:l.length<=1099511627776) (hm:c4 M key=some (s,.rw 1 (l.map BF))) (hlen:len=l.length) (hk:K (.row key 0 1 0 (dg (val l)).length) M):CQ L 65 [.row key 0 1 0 len] tm M K:=by
 subst hlen;unfold CQ;intro σ own hs;have ig:=hs.site _ _ _ hm;have Ma:b9 M key 0=some (.rw 1 (l.map BF)):=by simp only[b9,hm]
 have hb:=hs.c9 _ _ _ Ma;have ht:=hs.old _ _ _ Ma;refine ⟨.row key 0 1 0 (dg (val l)).length,own,σ,M,?_,hs,λ_=>rfl,hk⟩;exact Aka N l (σ key 0).1 (σ key 0).2 own hD hl hb ht (hs.low _ _ _ (IJ hm) rfl)
end Go.b8

namespace Go.b8
open F
attribute [local irreducible] AJ A3 BU AU FE BR C1 CK DS DE FA G7 DR B2 EH E5 AL CQ BC pw FM E2 F7 G8 GX EG FK EE FZ
set_option maxHeartbeats 4000000
variable {L:Lib}
abbrev uN (v:List Nat) (j m s xl:Nat):Tm:=[(102,AV.sl false (List.map BF v)),(101,AV.row 71012 0 1 j (v.length+1)),
           (100,AV.int IntKind.i64 (↑j + ↑v.length+1)),(99,AV.int IntKind.i64 (↑j + ↑v.length)),
           (98,AV.int IntKind.i64 ↑v.length),(97,AV.int IntKind.i64 ↑j),(96,AV.int IntKind.i64 ↑j),
           (95,AV.row 71012 0 1 0 (xl+1)),(94,AV.int IntKind.i64 ↑j),(93,AV.row 28 0 1 0 m),
           (90,AV.bool true),(14,AV.int IntKind.i64 ↑j),(13,AV.sl false (List.map BF v)),
           (12,AV.row 71012 0 1 0 (xl+1)),(11,AV.int IntKind.u64 ↑s),(7,AV.row 28 0 1 0 m),
           (6,AV.int IntKind.i64 ↑v.length)]
abbrev All:List It:=[It.lp KV.l2,It.c9 2,It.code
      (((DD.ops KV.bg false).dr [9,10,84,85,86,87,118,119,120,121,122,123,124,125,126]
         []).seq
       (((DD.ops KV.cp false).dr [127,128,129,130,131] []).seq
        ((((DD.ops KV.cz false).dr [15,132,133] []).seq
           (DD.cond 134
            (((DD.ops KV.ef false).dr [0,1,5,7,134,135,136] []).seq DD.ret)
            DD.skip)).seq
         (((DD.ops KV.iy false).dr [134] []).seq
          ((((DD.ops KV.ko false).dr [1] []).seq (DD.block 4 KV.l3.loop)).seq
           (((DD.ops KV.Pv false).dr
              [0,5,9,137,138,139,140,162,163,164,165,166,167,168,169] []).seq
            (((DD.ops KV.Py false).dr [7,170,171,172] []).seq DD.ret)))))))]
section
variable {A W C w v:List Nat} {j m s xl q:Nat} {K:AV->Mem->Prop}
theorem uE (hA:A.length=j) (hW:W.length=v.length+1) (D2:B9 W) (gx:B9 v) (jn:2<=v.length) (Ag:v.length<=549755813888) (cj:0<val v)
  (r1:q<4294967296) (r2:val W/val v<=q) (r3:q<=val W/val v+1)
  (hk : ∀ (W':List Nat) (o':List (List AV)) (q':Nat),W'.length=v.length+1->B9 W'->val W'=val W%val v->q'=val W/val v->K (.int .u32 (q':Int)) [(71012,71012,.rw 1 ((A++W'++C).map BF)),(28,28,.rw 1 (w.map BF)),(71012,71012,.rw 1 o')])
  (np : ∀ (W':List Nat) (o':List (List AV)) (q':Nat),W'.length=v.length+1->B9 W'->val W'=val W%val v->q'=val W/val v->K (.int .u32 (q':Int)) [(71012,71012,.rw 1 ((A++W'++C).map BF)),(71012,71012,.rw 1 o'),(28,28,.rw 1 (w.map BF))]) :
  AJ L All ([(86,.int .i64 0),(85,.int .i64 v.length),(84,.sl false (v.map BF)),(10,.int .u64 0),(9,.int .u64 0),(7,.int .u64 (q:Int)),(5,.int .i64 v.length),(0,AV.row 71012 0 1 j (v.length+1)),(1,AV.sl false (List.map BF v))]++LS 1000 (uN v j m s xl))
   [(71012,71012,C3.rw 1 (List.map BF (A++W++C))),(28,28,C3.rw 1 (List.map BF w))] (Yv 1000 KV (uN v j m s xl) K):=by
 refine iI (λ i _ _ _=>v.length-i) (λ(i:Nat) (Z:List Nat) (c b:Nat)=>i<=v.length/\Z.length=v.length+1/\B9 Z/\c<4294967296/\b<=1/\Z.drop i=W.drop i/\val (Z.take i)+q*val (v.take i)=val (W.take i)+4294967296^i*(c+b)) (λ i Z c b=>[(86,.int .i64 i),(10,.int .u64 (b:Int)),(9,.int .u64 (c:Int))]) (λ i Z c b=>[(71012,71012,.rw 1 ((A++Z++C).map BF))]) [] [] 0 W 0 0 (by (conv=>whnf);exact ⟨rfl,rfl,rfl⟩) ⟨by omega,hW,D2,by omega,by omega,rfl,by simp [val]⟩ ?_;intro i Z c b ⟨p1,p2,p3,p4,p5,p6,p7⟩ ih;by_cases hi:i<v.length
 ·obtain ⟨d,hd⟩ : ∃ d,v[i]? = some d:=⟨_,zE hi⟩
  obtain ⟨u,hu⟩ : ∃ u,Z[i]? = some u:=⟨_,zE (by omega)⟩;have br:=gx.at hd;have vz:=p3.at hu;obtain ⟨pr,xg⟩ : ∃ pr,pr=q*d+c:=⟨_,rfl⟩;obtain ⟨m1,m2,m3⟩:=AeP r1 br p4 xg;have Bo:W[i]? = some u:=by
   have e1:(Z.drop i)[0]? = (W.drop i)[0]? := by rw[p6]
   simpa [hu] using e1.symm
  (repeat' ((first|(apply A9<;>intro hc<;>try omega)|(apply B5;omega)|(apply K0;omega)|(apply X6;omega)|apply J2|(apply EM;omega)|(refine CN (by assumption) ?_ rfl ?_;omega)|apply A2)<;>conv=>whnf))
  rw[<-xg];refine ZI i hu (by omega) ?_;(conv=>whnf)
  (repeat' ((first|(apply B5;omega)|(apply mY;omega)|(apply EM;omega)|apply KQ)<;>conv=>whnf))
  obtain ⟨s1,s2⟩:=rL vz (show pr%4294967296<4294967296 by omega) p5;have j8:=Ao0 p7 xg rfl vz p5;generalize IQ (IQ u (pr%4294967296)) b=t at *;refine W0 i (by omega) (by omega) ?_;(conv=>whnf)
  (repeat' ((first|(apply BG;omega)|apply mT)<;>conv=>whnf))
  refine DP [] (by (conv=>whnf);exact ⟨rfl,rfl,rfl⟩) (ih (i+1) _ _ _ (by omega) ⟨by omega,by simpa using p2,p3.set _ (by omega),m1,s2,?_,?_⟩)
  ·rw[List.drop_set_of_lt (by omega)]
   have e1:(Z.drop i).drop 1=(W.drop i).drop 1:=by rw[p6]
   simpa using e1
  ·rw[KY (by omega),H5 hd,H5 Bo,Nat.pow_succ]
   exact j8
 ·obtain rfl:i=v.length:=by omega
  clear ih;obtain ⟨u,hu⟩ : ∃ u,Z[v.length]? = some u:=⟨_,zE (by omega)⟩;have vz:=p3.at hu;have Bo:W[v.length]? = some u:=by
   have e1:(Z.drop v.length)[0]? = (W.drop v.length)[0]? := by rw[p6]
   simpa [hu] using e1.symm
  rw[GV (Nat.le_refl v.length)]at p7;obtain ⟨s1,s2⟩:=rL vz p4 p5;have j8:=AoY p7 rfl vz p4 p5;have eW:val W=val (W.take v.length)+4294967296^v.length*u:=by
   rw[<-H5 Bo,GV (by omega)]
  rw[<-eW,<-KY (show v.length<Z.length by omega),GV (by simp;omega)]at j8;(repeat' ((first|(apply A9<;>intro hc<;>try omega)|(apply B5;omega)|apply A2)<;>conv=>whnf))
  refine ZI v.length hu (by omega) ?_;(conv=>whnf)
  (repeat' ((first|(apply B5;omega)|(apply mY;omega)|(apply EM;omega)|apply KQ)<;>conv=>whnf))
  generalize IQ (IQ u c) b=t at *;refine W0 v.length (by omega) (by omega) ?_;(conv=>whnf)
  (repeat' ((first|(apply A9<;>intro hc<;>try omega)|apply mT|(apply II;omega)|apply BT)<;>conv=>whnf))
  ·have ht0:t/9223372036854775808=0:=by omega
   rw[ht0,Nat.mul_zero,Nat.add_zero]at j8;obtain ⟨y1,y2⟩:=AbT cj r2 j8;exact ⟨rfl,_,rfl,hk _ _ _ (by simpa using p2) (p3.set _ (by omega)) y2 y1⟩
  ·have ht1:t/9223372036854775808=1:=by omega
   rw[ht1,Nat.mul_one]at j8;have Kl:B9 (Z.set v.length (t%4294967296)):=p3.set _ (by omega);have Hw:(Z.set v.length (t%4294967296)).length=v.length+1:=by simpa using p2
   clear p7 p6 p4 p5 s1 s2 eW ht1 hu Bo vz p1 p2 p3;generalize Z.set v.length (t%4294967296)=X at *;have Hu:=JM Kl;rw[Hw,Nat.pow_succ]at Hu;obtain ⟨y1,y2,y3⟩:=AbS cj r3 Hu j8;have hRV:val W%val v<val v:=Nat.mod_lt _ cj;have Fg:=JM gx;obtain ⟨xw,Hg⟩ : ∃ xw,X[v.length]? = some xw:=⟨_,zE (by omega)⟩;have eX:val X=val (X.take v.length)+4294967296^v.length*xw:=by
    rw[<-H5 Hg,GV (by omega)]
   refine LD (λ i _ _=>v.length-i) (λ(i:Nat) (Z:List Nat) (c:Nat)=>i<=v.length/\Z.length=v.length+1/\B9 Z/\c<=1/\Z.drop i=X.drop i/\val (Z.take i)+4294967296^i*c=val (X.take i)+val (v.take i)) (λ i Z c=>[(139,.int .i64 i),(9,.int .u64 (c:Int))]) (λ i Z c=>[(71012,71012,.rw 1 ((A++Z++C).map BF))]) 0 X 0 ⟨by omega,Hw,Kl,by omega,rfl,by simp [val]⟩ ?_;intro i Z c ⟨p1,p2,p3,p4,p6,p7⟩ ih;by_cases hi:i<v.length
   ·obtain ⟨d,hd⟩ : ∃ d,v[i]? = some d:=⟨_,zE hi⟩
    obtain ⟨u,hu⟩ : ∃ u,Z[i]? = some u:=⟨_,zE (by omega)⟩;have br:=gx.at hd;have vz:=p3.at hu;have ot:X[i]? = some u:=by
     have e1:(Z.drop i)[0]? = (X.drop i)[0]? := by rw[p6]
     simpa [hu] using e1.symm
    have Th:=Xu (d:=d) (w:=u) p7 rfl;(repeat' ((first|(apply A9<;>intro hc<;>try omega)|(apply B5;omega)|(refine CN (by assumption) ?_ rfl ?_;omega)|apply A2)<;>conv=>whnf))
    refine ZI i hu (by omega) ?_;(conv=>whnf)
    (repeat' ((first|(apply B5;omega)|(apply K0;omega)|(apply EM;omega)|apply KQ)<;>conv=>whnf))
    generalize ht2:u+d+c=t2 at *;refine W0 i (by omega) (by omega) ?_;(conv=>whnf)
    (repeat' ((first|(apply BG;omega)|apply J2)<;>conv=>whnf))
    refine DP [] (by (conv=>whnf);exact ⟨rfl,rfl,rfl⟩) (ih (i+1) _ _ (by omega) ⟨by omega,by simpa using p2,p3.set _ (by omega),by omega,?_,?_⟩)
    ·rw[List.drop_set_of_lt (by omega)]
     have e1:(Z.drop i).drop 1=(X.drop i).drop 1:=by rw[p6]
     simpa using e1
    ·rw[KY (by omega),H5 hd,H5 ot,Nat.pow_succ]
     exact Th
   ·obtain rfl:i=v.length:=by omega
    clear ih;obtain ⟨u,hu⟩ : ∃ u,Z[v.length]? = some u:=⟨_,zE (by omega)⟩;have vz:=p3.at hu;have ot:X[v.length]? = some u:=by
     have e1:(Z.drop v.length)[0]? = (X.drop v.length)[0]? := by rw[p6]
     simpa [hu] using e1.symm
    rw[ot]at Hg;obtain rfl:u=xw:=by simpa using Hg
    rw[GV (Nat.le_refl v.length)]at p7;have Km:=JM (p3.take v.length);rw[List.length_take,Nat.min_eq_left (by omega)]at Km;rw[eX]at y3;have uc:=Xt p7 y3 (by omega) Km;rw[<-KY (show v.length<Z.length by omega),GV (by simp;omega)]at uc;(repeat' ((first|(apply A9<;>intro hc<;>try omega)|(apply B5;omega)|apply A2)<;>conv=>whnf))
    refine ZI v.length hu (by omega) ?_;(conv=>whnf)
    (repeat' ((first|(apply B5;omega)|apply Yp|(apply II;omega))<;>conv=>whnf))
    refine W0 v.length (by omega) (by omega) ?_;(conv=>whnf)
    (repeat' ((first|(apply OM;omega;omega)|(apply II;omega))<;>conv=>whnf))
    exact ⟨rfl,_,rfl,np _ _ _ (by simpa using p2) (p3.set _ (by omega)) uc y1⟩
theorem Aks (N:c7 L) (hA:A.length=j) (hW:W.length=v.length+1) (D2:B9 W) (gx:B9 v) (jn:2<=v.length) (Ag:v.length<=549755813888) (cj:0<val v)
  (n2:4294967296^(v.length-1)*2147483648<=val v) (g2:val W<4294967296*val v)
  (hk : ∀ (W':List Nat) (o':List (List AV)) (q':Nat),W'.length=v.length+1->B9 W'->val W'=val W%val v->q'=val W/val v->K (.int .u32 (q':Int)) [(71012,71012,.rw 1 ((A++W'++C).map BF)),(28,28,.rw 1 (w.map BF)),(71012,71012,.rw 1 o')])
  (np : ∀ (W':List Nat) (o':List (List AV)) (q':Nat),W'.length=v.length+1->B9 W'->val W'=val W%val v->q'=val W/val v->K (.int .u32 (q':Int)) [(71012,71012,.rw 1 ((A++W'++C).map BF)),(71012,71012,.rw 1 o'),(28,28,.rw 1 (w.map BF))]) :
  CQ L 73 [AV.row 71012 0 1 j (v.length+1),AV.sl false (List.map BF v)] (uN v j m s xl) [(71012,71012,C3.rw 1 (List.map BF (A++W++C))),(28,28,C3.rw 1 (List.map BF w))] K:=by
 obtain ⟨UL,a1,a2⟩:=rT D2 (n:=v.length+1) (by omega) (by omega);obtain ⟨VL,b5,b6⟩:=AgY gx (n:=v.length) jn (by omega);obtain ⟨u0,w0⟩ : ∃ d,W[v.length]? = some d:=⟨_,zE (by omega)⟩;obtain ⟨u1,w1⟩ : ∃ d,W[v.length-1]? = some d:=⟨_,zE (by omega)⟩;obtain ⟨u2,w2⟩ : ∃ d,W[v.length-2]? = some d:=⟨_,zE (by omega)⟩;obtain ⟨f1,x1⟩ : ∃ d,v[v.length-1]? = some d:=⟨_,zE (by omega)⟩;obtain ⟨f2,x2⟩ : ∃ d,v[v.length-2]? = some d:=⟨_,zE (by omega)⟩;rw[show v.length+1-3=v.length-2 by omega,show v.length+1-2=v.length-1 by omega,show v.length+1-1=v.length by omega,LY w0,LY w1,LY w2]at a2;rw[show v.length+1-3=v.length-2 by omega]at a1;rw[LY x1,LY x2]at b6;have yv:=AgI gx (k:=v.length-1) (by omega) n2 x1;have k0:=D2.at w0;have k1:=D2.at w1;have k2:=D2.at w2;have k3:=gx.at x1;have k4:=gx.at x2;have z1:v[((v.length:Int)-1).toNat]? = some f1:=by rw[show ((v.length:Int)-1).toNat=v.length-1 by omega];exact x1
 have z2:v[((v.length:Int)-2).toNat]? = some f2:=by rw[show ((v.length:Int)-2).toNat=v.length-2 by omega];exact x2
 refine LE 1000 N.KV rfl rfl ?_;(repeat' ((first|(apply B5;omega)|apply BT|apply A2)<;>conv=>whnf))
 refine ZI v.length w0 (by omega) ?_;(conv=>whnf)
 (repeat' ((first|(apply B5;omega)|(apply DQ;omega)|(apply WU;omega)|(apply EM;omega))<;>conv=>whnf))
 refine ZI (v.length-1) w1 (by omega) ?_;(conv=>whnf)
 refine Yd (by omega) ?_;(conv=>whnf)
 refine X7 (by omega) ?_;(conv=>whnf)
 generalize Wy:u0*4294967296+u1=top at *;have Ha:top<=18446744073709551615:=by omega
 have hU:val W=UL+4294967296^(v.length-2)*(u2+4294967296*top):=by rw[a2,show u1+4294967296*u0=top by omega]
 (repeat' ((first|(apply DQ;omega)|(apply iQ;omega)|(apply mS;omega;omega)|(apply EM;omega)|(refine CN (by assumption) ?_ rfl ?_;omega))<;>conv=>whnf))
 refine dO (λ q _=>q) (λ(q r:Nat)=>Gs (val W) (val v) f1 f2 u2 top q r) (λ q r=>[(7,.int .u64 (q:Int)),(8,.int .u64 (r:Int))]) (λ_ _=>[]) [] [] (top/f1) (top%f1) (by (conv=>whnf);exact ⟨rfl,rfl,rfl⟩) (Gs.start hU b6 a1 k2 cj (by omega) k3) ?_;intro q r g lk;have We:q<=top:=by
  have h3:=g.hq;have h4:q*1<=q*f1:=Nat.mul_le_mul_left q (by omega);omega
 have hr:=g.hr;have ud:=g.ge;by_cases hb:4294967296<=q
 ·obtain ⟨y1,y2,y3⟩:=g.next hU b6 a1 cj g2 (Or.inl hb)
  (repeat' ((first|(apply A9<;>intro hc<;>try omega)|(apply DQ;omega)|(apply K0;omega)|(apply OM;omega;omega)|(apply EM;omega)|apply BT|(refine CN (by assumption) ?_ rfl ?_;omega)|apply A2)<;>conv=>whnf))
  ·obtain ⟨t1,t2⟩:=fP hU b6 b5 yv k4 g2 y2 (Or.inr (by omega))
   exact DP [] (by (conv=>whnf);exact ⟨rfl,rfl,rfl⟩) (uE (w:=w) (C:=C) hA hW D2 gx jn Ag cj t1 y3 t2 hk np)
  ·exact DP [] (by (conv=>whnf);exact ⟨rfl,rfl,rfl⟩) (lk (q-1) (r+f1) (by omega) ⟨y2,by omega,y3⟩)
 ·have hmq:=gA (show q<4294967296 by omega) k4
  by_cases z7:r*4294967296+u2<q*f2
  ·obtain ⟨y1,y2,y3⟩:=g.next hU b6 a1 cj g2 (Or.inr z7)
   (repeat' ((first|(apply A9<;>intro hc<;>try omega)|(apply B5;omega)|(apply DQ;omega)|(apply X6;omega)|(apply WU;omega)|(apply EM;omega)|(refine CN (by assumption) ?_ rfl ?_;omega)|apply A2)<;>conv=>whnf))
   refine ZI (v.length-2) w2 (by omega) ?_;(conv=>whnf)
   (repeat' ((first|(apply A9<;>intro hc<;>try omega)|(apply DQ;omega)|(apply K0;omega)|(apply X7;omega)|(apply OM;omega;omega)|(apply EM;omega)|apply BT|(refine CN (by assumption) ?_ rfl ?_;omega))<;>conv=>whnf))
   ·obtain ⟨t1,t2⟩:=fP hU b6 b5 yv k4 g2 y2 (Or.inr (by omega))
    exact DP [] (by (conv=>whnf);exact ⟨rfl,rfl,rfl⟩) (uE (w:=w) (C:=C) hA hW D2 gx jn Ag cj t1 y3 t2 hk np)
   ·exact DP [] (by (conv=>whnf);exact ⟨rfl,rfl,rfl⟩) (lk (q-1) (r+f1) (by omega) ⟨y2,by omega,y3⟩)
  ·obtain ⟨t1,t2⟩:=fP hU b6 b5 yv k4 g2 g.hq (Or.inl ⟨by omega,by omega⟩)
   (repeat' ((first|(apply A9<;>intro hc<;>try omega)|(apply B5;omega)|(apply DQ;omega)|(apply X6;omega)|(apply WU;omega)|(apply EM;omega)|(refine CN (by assumption) ?_ rfl ?_;omega)|apply A2)<;>conv=>whnf))
   refine ZI (v.length-2) w2 (by omega) ?_;(conv=>whnf)
   (repeat' ((first|(apply A9<;>intro hc<;>try omega)|(apply X7;omega)|(apply EM;omega)|apply BT)<;>conv=>whnf))
   exact DP [] (by (conv=>whnf);exact ⟨rfl,rfl,rfl⟩) (uE (w:=w) (C:=C) hA hW D2 gx jn Ag cj t1 ud t2 hk np)
end
end Go.b8

namespace Go.b8
open F
attribute [local irreducible] AJ A3 BU AU FE BR C1 CK DS DE FA G7 DR B2 EH E5 AL CQ BC pw FM E2 F7 G8 GX EG FK EE FZ
variable {L:Lib}
set_option maxHeartbeats 4000000
theorem AqE {V R y d t Q:Nat} (h:Q*y+R=V) (ht:t=R*4294967296+d):(t/y+4294967296*Q)*y+t%y=d+4294967296*V:=by
 have:=Nat.div_add_mod t y
 rw[<-h,Nat.add_mul];have e:t/y*y=y*(t/y):=Nat.mul_comm _ _;grind
theorem jD (a b:List Nat):B3 (.g8 [.sl false (a.map BF),.sl false (b.map BF)]):=by
 simp only[B3,EC,and_true,true_and];exact ⟨GC a,GC b⟩
set_option maxHeartbeats 4000000 in
theorem vB (N:c7 L) (X Y:Nat) (q1 q2:Bool) (hY:Y≠0) (lx:(dg X).length<=549755813888) (ly:(dg Y).length<=549755813888):Ev L 74 [.sl q1 ((dg X).map BF),.sl q2 ((dg Y).map BF)] (.g8 [.sl false ((dg (X/Y)).map BF),.sl false ((dg (X%Y)).map BF)]):=by
 have n0:=λ q q'=>YN N (dg X) (dg Y) q q' (HW X) (HW Y) (by omega) (by omega)
 rw[EA,EA]at n0;have d1:=HW X;have d2:=HW Y;have v1:=EA X;have v2:=EA Y;have hy1:=jM hY;refine Ev.x N.SB rfl rfl ?_;by_cases l7:X<Y
 ·have hn:GS X Y = -1:=(NT (by omega)).symm
  rw[hn]at n0;(repeat' ((first|(apply A9<;>intro hc<;>try omega)|apply A2|refine AP (n0 _ _) ?_|refine AP (Acu N (dg X) _ (by omega)) ?_)<;>conv=>whnf))
  refine BV ?_ (jD _ _);rw[Nat.div_eq_of_lt l7,Nat.mod_eq_of_lt l7,JL];rfl
 have ud:0<=GS X Y:=by unfold GS;split<;>(try split)<;>omega
 have zl:=ZU (show Y<=X by omega);generalize GS X Y=cm at *;by_cases h1:(dg Y).length=1
 ·-- one digit
  obtain ⟨y0,qz⟩ : ∃ y0,dg Y=[y0]:=List.length_eq_one_iff.1 h1;have wg:Y=y0:=by rw[<-v2,qz];simp [val]
  subst wg;have Ix:Y<4294967296:=d2 Y (by rw[qz];simp);have hyg:(dg Y)[0]? = some Y:=by rw[qz];rfl
  clear qz v2;generalize dg Y=y at *;generalize hx:dg X=x at *;(repeat' ((first|(apply A9<;>intro hc<;>try omega)|(apply BG;omega)|(apply DQ;omega)|apply BT|apply A2|refine AP (n0 _ _) ?_)<;>conv=>whnf))
  refine GJ (enc:=BF) 0 x.length rfl (by omega) (by omega) ?_;(conv=>whnf)
  (repeat' ((first|(apply A9<;>intro hc<;>try omega)|(apply DQ;omega)|apply BT)<;>conv=>whnf))
  refine LD (λ n _ _=>n) (λ(n:Nat) (o:List Nat) (r:Nat)=>n<=x.length/\o.length=x.length/\B9 o/\r<Y/\val (o.drop n)*Y+r=val (x.drop n)) (λ n o r=>[(8,.int .u64 (r:Int)),(9,.int .i64 ((n:Int)-1))]) (λ n o r=>[(28,28,.rw 1 (o.map BF))]) x.length (List.replicate x.length 0) 0 ⟨by omega,by simp,OS _,by omega,by rw[List.drop_of_length_le (Nat.le_refl _),List.drop_of_length_le (by simp)];simp [val]⟩ ?_;intro n o r ⟨p1,p2,p3,p4,p5⟩ ih;rcases n with _|n
  ·rw[List.drop_zero,List.drop_zero]at p5
   have hq:X/Y=val o/\X%Y=r:=by
    rw[<-v1,<-p5];have e1:(val o*Y+r)/Y=val o:=by
     rw[Nat.mul_comm,Nat.mul_add_div (by omega),Nat.div_eq_of_lt p4,Nat.add_zero]
    have e2:(val o*Y+r)%Y=r:=by
     rw[Nat.mul_comm,Nat.mul_add_mod,Nat.mod_eq_of_lt p4]
    exact ⟨e1,e2⟩
   rw[hq.1,hq.2,<-p2];clear ih hq p5;have iq:=JB p3;have gd:B9 [r]:=MS (by omega);have jg:=JB gd;have Po:val [r]=r:=by simp [val]
   have Pa:[r].length=1:=rfl;(repeat' ((first|(apply A9<;>intro hc<;>try omega)|(apply II;omega)|apply A2|refine mL N (by assumption) (by omega) rfl (by first|rfl|omega|assumption) ?_)<;>conv=>whnf))
   refine M9 (enc:=BF) (λ_=>rfl) (by omega) ?_;(conv=>whnf)
   refine M9 (enc:=BF) (l:=[r]) (λ_=>rfl) (by omega) ?_;(conv=>whnf)
   refine BV ?_ (jD _ _);rw[List.drop_zero,List.drop_zero,lX p3,lX gd,Po]
  ·have e1:((n+1:Nat):Int)-1=n:=by omega
   rw[e1];obtain ⟨d,hd⟩ : ∃ d,x[n]? = some d:=⟨_,zE (by omega)⟩;have br:=d1.at hd;have hYb:Y<4294967296:=Ix;have hR:r*4294967296+d<Y*4294967296:=by omega
   have zw:(r*4294967296+d)/Y<4294967296:=(Nat.div_lt_iff_lt_mul (by omega)).2 (by omega);(repeat' ((first|(apply A9<;>intro hc<;>try omega)|(apply B5;omega)|(apply WU;omega)|(apply X7;omega)|(apply mS;omega;omega)|(apply EM;omega)|(apply II;omega)|(refine CN (by assumption) ?_ rfl ?_;omega)|apply A2)<;>conv=>whnf))
   obtain ⟨t,ht⟩ : ∃ t,t=r*4294967296+d:=⟨_,rfl⟩;rw[<-ht]at hR zw ⊢;have hm:t%Y<Y:=Nat.mod_lt _ (by omega);have j8:=AqE p5 ht;rw[<-MN hd]at j8;clear ht;skip
   refine JW (by omega) ?_;(conv=>whnf)
   (repeat' ((first|(apply DQ;omega)|(apply iQ;omega)|(apply EM;omega)|(refine CN (by assumption) ?_ rfl ?_;omega))<;>conv=>whnf))
   generalize t/Y=tq at *;generalize t%Y=tr at *;refine DP [] (by (conv=>whnf);exact ⟨rfl,rfl,rfl⟩) (ih n _ _ (by omega) ⟨by omega,by simpa using p2,p3.set _ (by omega),hm,?_⟩);rw[MN (l:=o.set n tq) (d:=tq) (by rw[List.getElem?_set_self (by omega)]),List.drop_set_of_lt (by omega)];exact j8
 ·-- two digits or more
  have Vl:2<=(dg Y).length:=by omega
  obtain ⟨yt,Ak,Cq⟩:=uD hY;have Am:=d2.at Ak;obtain ⟨b1,b2,b3,b4⟩:=xF Cq Am;have Lr:=Acx N yt Am;generalize hs:32-v5 yt=s at *;have fb:s<=31:=by omega
  generalize dg Y=y at *;generalize hx:dg X=x at *;have e1:((y.length:Int)-1).toNat=y.length-1:=by omega
  rw[<-e1]at Ak;obtain ⟨rv,hrv,v,hV,iw,Wj⟩:=Ami N y q2 s y.length d2 fb (by omega) (by omega);subst Wj;(repeat' ((first|(apply A9<;>intro hc<;>try omega)|(apply BG;omega)|(apply DQ;omega)|apply BT|apply A2|refine AP (n0 _ _) ?_)<;>conv=>whnf))
  refine GJ (enc:=BF) 0 (x.length-y.length+1) rfl (by omega) (by omega) ?_;(conv=>whnf)
  (repeat' ((first|(apply A9<;>intro hc<;>try omega)|(apply BG;omega)|(apply DQ;omega)|(apply EM;omega)|apply BT|(refine CN (by assumption) ?_ rfl ?_;omega)|refine AP (Lr) ?_)<;>conv=>whnf))
  refine LE 1000 N.PB rfl rfl ?_;(repeat' (apply A2<;>conv=>whnf))
  refine GJ (enc:=BF) 0 (x.length+1) rfl (by omega) (by omega) ?_;(conv=>whnf)
  (repeat' (apply BT<;>conv=>whnf))
  have xi:=kX (s:=s) (by omega);refine LD (λ i _ _=>x.length-i) (λ(i:Nat) (o:List Nat) (lo:Nat)=>i<=x.length/\o.length=x.length+1/\B9 o/\lo<2^s/\val (o.take i)+4294967296^i*lo=val (x.take i)*2^s) (λ i o lo=>[(8,.int .u32 (lo:Int)),(15,.int .i64 i)]) (λ i o lo=>[(71012,71012,.rw 1 (o.map BF))]) 0 (List.replicate (x.length+1) 0) 0 ⟨by omega,by simp,OS _,Nat.two_pow_pos s,by simp [val]⟩ ?_;intro i o lo ⟨p1,p2,p3,p4,p5⟩ ih;by_cases hi:i<x.length
  ·obtain ⟨d,hd⟩ : ∃ d,x[i]? = some d:=⟨_,zE hi⟩
   have br:=d1.at hd;obtain ⟨f1,f2,f3,f4⟩:=cX (s:=s) br (by omega);(repeat' ((first|(apply A9<;>intro hc<;>try omega)|(refine CN (by assumption) ?_ rfl ?_;omega)|apply A2)<;>conv=>whnf))
   refine Ys (by omega) ?_;(conv=>whnf)
   skip
   refine sJ s f1 p4 (by omega) ?_;(conv=>whnf)
   (repeat' ((first|(apply B5;omega)|fail)<;>conv=>whnf))
   refine JW (by omega) ?_;(conv=>whnf)
   (repeat' ((first|(apply EM;omega)|fail)<;>conv=>whnf))
   refine YA (by omega) f4 ?_;(conv=>whnf)
   (repeat' ((first|(apply BG;omega)|apply J2|(apply II;omega))<;>conv=>whnf))
   rw[<-cU];refine DP [] (by (conv=>whnf);exact ⟨rfl,rfl,rfl⟩) (ih (i+1) _ _ (by omega) ⟨by omega,by simpa using p2,p3.set _ (by omega),f2,?_⟩);rw[KY (by omega),H5 hd,Nat.pow_succ];exact Aep p5
  obtain rfl:i=x.length:=by omega
  clear ih;(repeat' ((first|(apply A9<;>intro hc<;>try omega)|(apply B5;omega)|apply BT|apply A2)<;>conv=>whnf))
  refine JW (by omega) ?_;(conv=>whnf)
  skip
  have hU:=Aeo p3 (by omega) p2 p5;have Hv:(o.set x.length lo).length=x.length+1:=by simpa using p2
  clear p3 p4 p5 p2;generalize o.set x.length lo=u at *;refine ⟨rfl,_,rfl,?_⟩;(conv=>whnf)
  (repeat' ((first|(apply DQ;omega)|apply BT|refine AP (hrv) ?_)<;>conv=>whnf))
  have Xf:y[y.length-1]? = some yt:=by rw[<-e1];exact Ak
  obtain ⟨n1,n2⟩:=wX d2 Xf (by omega) fb b3 b4;have Oi:val v=Y*2^s:=by rw[<-v2];exact hV.2.2 (by rw[iw];exact n1)
  have Og:val u=X*2^s:=by
   rw[<-v1];refine hU.2.2 ?_;have h3:=JM d1;rw[Hv,Nat.pow_succ];exact Nat.lt_of_lt_of_le (Nat.mul_lt_mul_of_pos_right h3 (Nat.two_pow_pos s)) (Nat.mul_le_mul_left _ xi)
  have gx:=hV.1;have Od:=hU.1;have Fi:=JM gx;rw[v2,<-Oi]at n2;rw[<-iw]at n2;clear hV hU n0 hrv Lr;have jn:2<=v.length:=by omega
  have hvx:v.length<=x.length:=by omega
  have Ag:v.length<=549755813888:=by omega
  have hxL:x.length<=549755813888:=by omega
  have hX:X<4294967296^x.length:=by rw[<-v1];exact JM d1
  rw[<-iw];generalize hm:x.length-v.length+1=m at *;have cj:0<val v:=by
   have:=Afl (v.length-1)
   omega
  have vb:val (u.drop m)<val v:=by
   have h1:=PO u m (by omega);rw[Og]at h1;have h2:X*2^s<4294967296^x.length*2147483648:=Nat.lt_of_lt_of_le (Nat.mul_lt_mul_of_pos_right hX (Nat.two_pow_pos s)) (Nat.mul_le_mul_left _ (Nat.pow_le_pow_right (by omega) fb));have h3:4294967296^x.length=4294967296^m*4294967296^(v.length-1):=by rw[<-Nat.pow_add];congr 1;omega
   rw[h3,Nat.mul_assoc]at h2;refine Nat.lt_of_lt_of_le ?_ n2;refine Nat.lt_of_mul_lt_mul_left (a:=4294967296^m) ?_;omega
  have e2:(x.length:Int)-v.length=((m:Nat):Int)-1:=by omega
  rw[e2];refine LD (λ n _ _=>n) (λ(n:Nat) (o w:List Nat)=>n<=m/\o.length=x.length+1/\B9 o/\w.length=m/\B9 w/\val (o.drop n)<val v/\X*2^s=val (o.take n)+4294967296^n*(val (w.drop n)*val v+val (o.drop n))) (λ n o w=>[(14,.int .i64 ((n:Int)-1))]) (λ n o w=>[(71012,71012,.rw 1 (o.map BF)),(28,28,.rw 1 (w.map BF))]) m u (List.replicate m 0) ⟨by omega,Hv,Od,by simp,OS _,vb,by rw[<-Og,List.drop_of_length_le (show (List.replicate m 0).length<=m by simp),OH,Nat.zero_mul,Nat.zero_add];exact PO u m (by omega)⟩ ?_;intro n o w ⟨p1,p2,p3,p4,p5,p6,p7⟩ ih;rcases n with _|j
  ·clear ih
   rw[List.drop_zero]at p6;rw[List.take_zero,List.drop_zero,List.drop_zero,OH,Nat.zero_add,Nat.pow_zero,Nat.one_mul]at p7;have ub:val o=val (o.take v.length):=by
    have h1:=dG o v.length;rcases Nat.eq_zero_or_pos (val (o.drop v.length)) with h2|h2
    ·rw[h2,Nat.mul_zero,Nat.add_zero]at h1;exact h1
    ·have h3:4294967296^v.length*1<=4294967296^v.length*val (o.drop v.length):=Nat.mul_le_mul_left _ h2
     omega
   have Bp:X/Y=val w/\X%Y=val o/2^s:=by
    obtain ⟨z1,z2⟩:=AbV (X:=X) (Y:=Y) (Nat.two_pow_pos s);rw[<-z1,<-z2,<-Oi,p7];have e1:(val w*val v+val o)/val v=val w:=by
     rw[Nat.mul_comm,Nat.mul_add_div cj,Nat.div_eq_of_lt p6,Nat.add_zero]
    have e2:(val w*val v+val o)%val v=val o:=by
     rw[Nat.mul_comm,Nat.mul_add_mod,Nat.mod_eq_of_lt p6]
    rw[e1,e2];exact ⟨rfl,rfl⟩
   rw[Bp.1,Bp.2];have iq:=JB p5;obtain ⟨ro,Ci,o2,k1,k2,k3,k4⟩:=Amj N (o.take v.length) true s (p3.take _) fb (by rw[List.length_take];omega);subst k4;rw[ub,<-k3];have jg:=JB k1;rw[List.length_take]at k2;clear p7 Bp vb;(repeat' ((first|(apply A9<;>intro hc<;>try omega)|apply A2|refine mL N (by assumption) (by omega) rfl (by first|rfl|omega|assumption) ?_)<;>conv=>whnf))
   refine L6 v.length rfl (by omega) ?_;(conv=>whnf)
   refine M9 (enc:=BF) (λ_=>rfl) (by omega) ?_;(conv=>whnf)
   rw[List.drop_zero,Nat.sub_zero];(repeat' ((first|refine AP (Ci) ?_|refine PQ (P8 N o2 _ k1 (by omega)) ?_)<;>conv=>whnf))
   refine M9 (enc:=BF) (λ_=>rfl) (by omega) ?_;(conv=>whnf)
   refine BV ?_ (jD _ _);rw[List.drop_zero,lX p5]
  ·have e3:((j+1:Nat):Int)-1=j:=by omega
   rw[e3];have e4:(v.length:Int).toNat=v.length:=by omega
   obtain ⟨A,W,C,hA,hW,rfl⟩:=Acg o j (v.length+1) (by omega);obtain ⟨g1,g2,g3⟩:=Aci hA hW p3 p6 Fi;obtain ⟨D1,D2,D3⟩:=AbR p3;have Az:val W/val v<4294967296:=(Nat.div_lt_iff_lt_mul cj).2 g2;have Sx:val W=val W/val v*val v+val W%val v:=by rw[Nat.mul_comm];exact (Nat.div_add_mod _ _).symm
   have Fj:val W%val v<val v:=Nat.mod_lt _ cj;have Ff:X*2^s=val A+4294967296^j*val W+4294967296^j*4294967296*(val (w.drop (j+1))*val v):=by
    rw[p7,Nat.mul_add,<-g3,Nat.pow_succ];omega
   have ux:=Ach Ff Sx;have jl : ∀ q',q'=val W/val v->val ((w.set j q').drop j)=val W/val v+4294967296*val (w.drop (j+1)):=λ q' h=>by
    rw[MN (l:=w.set j q') (d:=q') (by rw[List.getElem?_set_self (by omega)]),List.drop_set_of_lt (by omega),h]
   have hlen : ∀ W':List Nat,W'.length=v.length+1->(A++W'++C).length=x.length+1:=λ W' h=>by
    rw[<-p2];simp [h,hW]
   (repeat' ((first|(apply A9<;>intro hc<;>try omega)|(apply BG;omega)|(apply rX;omega)|apply A2)<;>conv=>whnf))
   rw[show ((j:Int)+v.length+1).toNat-(j:Int).toNat=v.length+1 by omega,show 0+(j:Int).toNat=j by omega];refine Aks N hA hW D2 gx jn Ag cj n2 g2 (λ W' o' q' z1 z2 z3 z4 => ?_) (λ W' o' q' z1 z2 z3 z4 => ?_)
   ·(conv=>whnf)
    (repeat' ((first|(apply B5;omega)|fail)<;>conv=>whnf))
    refine JW (by omega) ?_;(conv=>whnf)
    (repeat' ((first|(apply DQ;omega)|fail)<;>conv=>whnf))
    obtain ⟨t1,t2⟩:=uO (A:=A) (W:=W') (C:=C) (j:=j) hA g1;refine DP [] (by (conv=>whnf);exact ⟨rfl,rfl,rfl⟩) (ih j (A++W'++C) (w.set j q') (by omega) ⟨by omega,hlen W' z1,(D1.append z2).append D3,by simpa using p4,p5.set _ (by omega),by omega,?_⟩);rw[t1,t2,jl q' z4,z3];exact ux
   ·(conv=>whnf)
    (repeat' ((first|(apply B5;omega)|fail)<;>conv=>whnf))
    refine JW (by omega) ?_;(conv=>whnf)
    (repeat' ((first|(apply DQ;omega)|fail)<;>conv=>whnf))
    obtain ⟨t1,t2⟩:=uO (A:=A) (W:=W') (C:=C) (j:=j) hA g1;refine DP [] (by (conv=>whnf);exact ⟨rfl,rfl,rfl⟩) (ih j (A++W'++C) (w.set j q') (by omega) ⟨by omega,hlen W' z1,(D1.append z2).append D3,by simpa using p4,p5.set _ (by omega),by omega,?_⟩);rw[t1,t2,jl q' z4,z3];exact ux
end Go.b8
