/-
  Natural numbers (layer 1): division.
-/
import Derived.Test.YtekdjalmkdjplaaGreatB9
import Derived.Test.YtekdjalmkdjplaaGreatB8
import Derived.Test.YtekdjalmkdjplaaGreatB1
import Derived.Test.YtekdjalmkdjplaaGreatB2
import Derived.Test.YtekdjalmkdjplaaGreatB7
import Derived.Test.YtekdjalmkdjplaaGreatB4
import Derived.ProofKit
import Derived.OpenShut
import Derived.ChangeOld
import Derived.WalkKit
import Derived.WideShapes
import Derived.ChangeArms
set_option linter.unusedSimpArgs false
set_option linter.unusedVariables false
set_option linter.unnecessarySimpa false
namespace Go.c8
open F
attribute [local irreducible] AA AF AX AB CQ AY BB A9 BS BR CX D9 BT A1 BP CK AC A5 AL pw C7 CE DM DF DP DU DY BQ DE
variable {L:Lib}
set_option maxHeartbeats 4000000
theorem Lf {V R y d t Q:Nat} (h:Q*y+R=V) (ht:t=R*4294967296+d):(t/y+4294967296*Q)*y+t%y=d+4294967296*V:=by
 have:=Nat.div_add_mod t y
 rw[<-h,Nat.add_mul];have e:t/y*y=y*(t/y):=Nat.mul_comm _ _;grind
theorem RJ (a b:List Nat):AZ (.e7 [.sl false (a.map AJ),.sl false (b.map AJ)]):=by
 simp only[AZ,CG,and_true,true_and];exact ⟨CR a,CR b⟩
set_option maxHeartbeats 4000000 in
theorem XJ (N:a9 L) (X Y:Nat) (q1 q2:Bool) (hY:Y≠0) (lx:(dg X).length<=549755813888) (ly:(dg Y).length<=549755813888):Ev L 74 [.sl q1 ((dg X).map AJ),.sl q2 ((dg Y).map AJ)] (.e7 [.sl false ((dg (X/Y)).map AJ),.sl false ((dg (X%Y)).map AJ)]):=by
 have j6:=λ q q'=>OR N (dg X) (dg Y) q q' (C3 X) (C3 Y) (by omega) (by omega)
 rw[BF,BF]at j6;have d1:=C3 X;have d2:=C3 Y;have v1:=BF X;have v2:=BF Y;have Pv:=RO hY;refine Ev.x N.J7 rfl rfl ?_;by_cases k6:X<Y
 ·have hn:CM X Y = -1:=(GV (by omega)).symm
  rw[hn]at j6;(repeat' ((first|(apply AH<;>intro hc<;>try omega)|apply AD|refine AG (j6 _ _) ?_|refine AG (eA N (dg X) _ (by omega)) ?_)<;>conv=>whnf))
  refine AU ?_ (RJ _ _);rw[Nat.div_eq_of_lt k6,Nat.mod_eq_of_lt k6,DZ];rfl
 have iu:0<=CM X Y:=by unfold CM;split<;>(try split)<;>omega
 have pc:=NG (show Y<=X by omega);generalize CM X Y=cm at *;by_cases h1:(dg Y).length=1
 ·-- one digit
  obtain ⟨y0,iz⟩ : ∃ y0,dg Y=[y0]:=List.length_eq_one_iff.1 h1;have oa:Y=y0:=by rw[<-v2,iz];simp [val]
  subst oa;have vq:Y<4294967296:=d2 Y (by rw[iz];simp);have Px:(dg Y)[0]? = some Y:=by rw[iz];rfl
  clear iz v2;generalize dg Y=y at *;generalize hx:dg X=x at *;(repeat' ((first|(apply AH<;>intro hc<;>try omega)|(apply A2;omega)|(apply BN;omega)|apply AQ|apply AD|refine AG (j6 _ _) ?_)<;>conv=>whnf))
  refine DQ (enc:=AJ) 0 x.length rfl (by omega) (by omega) ?_;(conv=>whnf)
  (repeat' ((first|(apply AH<;>intro hc<;>try omega)|(apply BN;omega)|apply AQ)<;>conv=>whnf))
  refine E9 (λ n _ _=>n) (λ(n:Nat) (o:List Nat) (r:Nat)=>n<=x.length/\o.length=x.length/\AR o/\r<Y/\val (o.drop n)*Y+r=val (x.drop n)) (λ n o r=>[(8,.int .u64 (r:Int)),(9,.int .i64 ((n:Int)-1))]) (λ n o r=>[(28,28,.rw 1 (o.map AJ))]) x.length (List.replicate x.length 0) 0 ⟨by omega,by simp,HP _,by omega,by rw[List.drop_of_length_le (Nat.le_refl _),List.drop_of_length_le (by simp)];simp [val]⟩ ?_;intro n o r ⟨p1,p2,p3,p4,p5⟩ ih;rcases n with _|n
  ·rw[List.drop_zero,List.drop_zero]at p5
   have hq:X/Y=val o/\X%Y=r:=by
    rw[<-v1,<-p5];have e1:(val o*Y+r)/Y=val o:=by
     rw[Nat.mul_comm,Nat.mul_add_div (by omega),Nat.div_eq_of_lt p4,Nat.add_zero]
    have e2:(val o*Y+r)%Y=r:=by
     rw[Nat.mul_comm,Nat.mul_add_mod,Nat.mod_eq_of_lt p4]
    exact ⟨e1,e2⟩
   rw[hq.1,hq.2,<-p2];clear ih hq p5;have fo:=DR p3;have cn:AR [r]:=F6 (by omega);have da:=DR cn;have Ar:val [r]=r:=by simp [val]
   have Cz:[r].length=1:=rfl;(repeat' ((first|(apply AH<;>intro hc<;>try omega)|(apply DD;omega)|apply AD|refine S5 N (by assumption) (by omega) rfl (by first|rfl|omega|assumption) ?_)<;>conv=>whnf))
   refine FV (enc:=AJ) (λ_=>rfl) (by omega) ?_;(conv=>whnf)
   refine FV (enc:=AJ) (l:=[r]) (λ_=>rfl) (by omega) ?_;(conv=>whnf)
   refine AU ?_ (RJ _ _);rw[List.drop_zero,List.drop_zero,SX p3,SX cn,Ar]
  ·have e1:((n+1:Nat):Int)-1=n:=by omega
   rw[e1];obtain ⟨d,hd⟩ : ∃ d,x[n]? = some d:=⟨_,zE (by omega)⟩;have x5:=d1.at hd;have Qy:Y<4294967296:=vq;have hR:r*4294967296+d<Y*4294967296:=by omega
   have Dx:(r*4294967296+d)/Y<4294967296:=(Nat.div_lt_iff_lt_mul (by omega)).2 (by omega);(repeat' ((first|(apply AH<;>intro hc<;>try omega)|(apply BA;omega)|(apply LV;omega)|(apply MH;omega)|(apply TC;omega;omega)|(apply BV;omega)|(apply DD;omega)|(refine BH (by assumption) ?_ rfl ?_;omega)|apply AD)<;>conv=>whnf))
   obtain ⟨t,ht⟩ : ∃ t,t=r*4294967296+d:=⟨_,rfl⟩;rw[<-ht]at hR Dx ⊢;have hm:t%Y<Y:=Nat.mod_lt _ (by omega);have g8:=Lf p5 ht;rw[<-F3 hd]at g8;clear ht;skip
   refine EA (by omega) ?_;(conv=>whnf)
   (repeat' ((first|(apply BN;omega)|(apply Q7;omega)|(apply BV;omega)|(refine BH (by assumption) ?_ rfl ?_;omega))<;>conv=>whnf))
   generalize t/Y=tq at *;generalize t%Y=tr at *;refine BJ [] (by (conv=>whnf);exact ⟨rfl,rfl,rfl⟩) (ih n _ _ (by omega) ⟨by omega,by simpa using p2,p3.set _ (by omega),hm,?_⟩);rw[F3 (l:=o.set n tq) (d:=tq) (by rw[List.getElem?_set_self (by omega)]),List.drop_set_of_lt (by omega)];exact g8
 ·-- two digits or more
  have Dh:2<=(dg Y).length:=by omega
  obtain ⟨yt,po,pq⟩:=W2 hY;have nk:=d2.at po;obtain ⟨b1,b2,b3,b4⟩:=YK pq nk;have yb:=eC N yt nk;generalize hs:32-l9 yt=s at *;have w9:s<=31:=by omega
  generalize dg Y=y at *;generalize hx:dg X=x at *;have e1:((y.length:Int)-1).toNat=y.length-1:=by omega
  rw[<-e1]at po;obtain ⟨rv,Gt,v,hV,lq,Ee⟩:=vP N y q2 s y.length d2 w9 (by omega) (by omega);subst Ee;(repeat' ((first|(apply AH<;>intro hc<;>try omega)|(apply A2;omega)|(apply BN;omega)|apply AQ|apply AD|refine AG (j6 _ _) ?_)<;>conv=>whnf))
  refine DQ (enc:=AJ) 0 (x.length-y.length+1) rfl (by omega) (by omega) ?_;(conv=>whnf)
  (repeat' ((first|(apply AH<;>intro hc<;>try omega)|(apply A2;omega)|(apply BN;omega)|(apply BV;omega)|apply AQ|(refine BH (by assumption) ?_ rfl ?_;omega)|refine AG (yb) ?_)<;>conv=>whnf))
  refine FA 1000 N.H7 rfl rfl ?_;(repeat' (apply AD<;>conv=>whnf))
  refine DQ (enc:=AJ) 0 (x.length+1) rfl (by omega) (by omega) ?_;(conv=>whnf)
  (repeat' (apply AQ<;>conv=>whnf))
  have lj:=SF (s:=s) (by omega);refine E9 (λ i _ _=>x.length-i) (λ(i:Nat) (o:List Nat) (lo:Nat)=>i<=x.length/\o.length=x.length+1/\AR o/\lo<2^s/\val (o.take i)+4294967296^i*lo=val (x.take i)*2^s) (λ i o lo=>[(8,.int .u32 (lo:Int)),(15,.int .i64 i)]) (λ i o lo=>[(71012,71012,.rw 1 (o.map AJ))]) 0 (List.replicate (x.length+1) 0) 0 ⟨by omega,by simp,HP _,Nat.two_pow_pos s,by simp [val]⟩ ?_;intro i o lo ⟨p1,p2,p3,p4,p5⟩ ih;by_cases hi:i<x.length
  ·obtain ⟨d,hd⟩ : ∃ d,x[i]? = some d:=⟨_,zE hi⟩
   have x5:=d1.at hd;obtain ⟨f1,f2,f3,f4⟩:=PD (s:=s) x5 (by omega);(repeat' ((first|(apply AH<;>intro hc<;>try omega)|(refine BH (by assumption) ?_ rfl ?_;omega)|apply AD)<;>conv=>whnf))
   refine aT (by omega) ?_;(conv=>whnf)
   skip
   refine V8 s f1 p4 (by omega) ?_;(conv=>whnf)
   (repeat' ((first|(apply BA;omega)|fail)<;>conv=>whnf))
   refine EA (by omega) ?_;(conv=>whnf)
   (repeat' ((first|(apply BV;omega)|fail)<;>conv=>whnf))
   refine MJ (by omega) f4 ?_;(conv=>whnf)
   (repeat' ((first|(apply A2;omega)|apply EF|(apply DD;omega))<;>conv=>whnf))
   rw[<-PC];refine BJ [] (by (conv=>whnf);exact ⟨rfl,rfl,rfl⟩) (ih (i+1) _ _ (by omega) ⟨by omega,by simpa using p2,p3.set _ (by omega),f2,?_⟩);rw[E3 (by omega),C5 hd,Nat.pow_succ];exact iI p5
  obtain rfl:i=x.length:=by omega
  clear ih;(repeat' ((first|(apply AH<;>intro hc<;>try omega)|(apply BA;omega)|apply AQ|apply AD)<;>conv=>whnf))
  refine EA (by omega) ?_;(conv=>whnf)
  skip
  have hU:=iH p3 (by omega) p2 p5;have ux:(o.set x.length lo).length=x.length+1:=by simpa using p2
  clear p3 p4 p5 p2;generalize o.set x.length lo=u at *;refine ⟨rfl,_,rfl,?_⟩;(conv=>whnf)
  (repeat' ((first|(apply BN;omega)|apply AQ|refine AG (Gt) ?_)<;>conv=>whnf))
  have Et:y[y.length-1]? = some yt:=by rw[<-e1];exact po
  obtain ⟨n1,n2⟩:=YC d2 Et (by omega) w9 b3 b4;have Ac:val v=Y*2^s:=by rw[<-v2];exact hV.2.2 (by rw[lq];exact n1)
  have Ab:val u=X*2^s:=by
   rw[<-v1];refine hU.2.2 ?_;have h3:=DX d1;rw[ux,Nat.pow_succ];exact Nat.lt_of_lt_of_le (Nat.mul_lt_mul_of_pos_right h3 (Nat.two_pow_pos s)) (Nat.mul_le_mul_left _ lj)
  have aq:=hV.1;have zz:=hU.1;have sf:=DX aq;rw[v2,<-Ac]at n2;rw[<-lq]at n2;clear hV hU j6 Gt yb;have bl:2<=v.length:=by omega
  have Rn:v.length<=x.length:=by omega
  have nj:v.length<=549755813888:=by omega
  have Ro:x.length<=549755813888:=by omega
  have hX:X<4294967296^x.length:=by rw[<-v1];exact DX d1
  rw[<-lq];generalize hm:x.length-v.length+1=m at *;have s8:0<val v:=by
   have:=jW (v.length-1)
   omega
  have mo:val (u.drop m)<val v:=by
   have h1:=IG u m (by omega);rw[Ab]at h1;have h2:X*2^s<4294967296^x.length*2147483648:=Nat.lt_of_lt_of_le (Nat.mul_lt_mul_of_pos_right hX (Nat.two_pow_pos s)) (Nat.mul_le_mul_left _ (Nat.pow_le_pow_right (by omega) w9));have h3:4294967296^x.length=4294967296^m*4294967296^(v.length-1):=by rw[<-Nat.pow_add];congr 1;omega
   rw[h3,Nat.mul_assoc]at h2;refine Nat.lt_of_lt_of_le ?_ n2;refine Nat.lt_of_mul_lt_mul_left (a:=4294967296^m) ?_;omega
  have e2:(x.length:Int)-v.length=((m:Nat):Int)-1:=by omega
  rw[e2];refine E9 (λ n _ _=>n) (λ(n:Nat) (o w:List Nat)=>n<=m/\o.length=x.length+1/\AR o/\w.length=m/\AR w/\val (o.drop n)<val v/\X*2^s=val (o.take n)+4294967296^n*(val (w.drop n)*val v+val (o.drop n))) (λ n o w=>[(14,.int .i64 ((n:Int)-1))]) (λ n o w=>[(71012,71012,.rw 1 (o.map AJ)),(28,28,.rw 1 (w.map AJ))]) m u (List.replicate m 0) ⟨by omega,ux,zz,by simp,HP _,mo,by rw[<-Ab,List.drop_of_length_le (show (List.replicate m 0).length<=m by simp),HL,Nat.zero_mul,Nat.zero_add];exact IG u m (by omega)⟩ ?_;intro n o w ⟨p1,p2,p3,p4,p5,p6,p7⟩ ih;rcases n with _|j
  ·clear ih
   rw[List.drop_zero]at p6;rw[List.take_zero,List.drop_zero,List.drop_zero,HL,Nat.zero_add,Nat.pow_zero,Nat.one_mul]at p7;have iq:val o=val (o.take v.length):=by
    have h1:=PL o v.length;rcases Nat.eq_zero_or_pos (val (o.drop v.length)) with h2|h2
    ·rw[h2,Nat.mul_zero,Nat.add_zero]at h1;exact h1
    ·have h3:4294967296^v.length*1<=4294967296^v.length*val (o.drop v.length):=Nat.mul_le_mul_left _ h2
     omega
   have ou:X/Y=val w/\X%Y=val o/2^s:=by
    obtain ⟨z1,z2⟩:=dC (X:=X) (Y:=Y) (Nat.two_pow_pos s);rw[<-z1,<-z2,<-Ac,p7];have e1:(val w*val v+val o)/val v=val w:=by
     rw[Nat.mul_comm,Nat.mul_add_div s8,Nat.div_eq_of_lt p6,Nat.add_zero]
    have e2:(val w*val v+val o)%val v=val o:=by
     rw[Nat.mul_comm,Nat.mul_add_mod,Nat.mod_eq_of_lt p6]
    rw[e1,e2];exact ⟨rfl,rfl⟩
   rw[ou.1,ou.2];have fo:=DR p5;obtain ⟨ro,yq,o2,k1,k2,k3,k4⟩:=vQ N (o.take v.length) true s (p3.take _) w9 (by rw[List.length_take];omega);subst k4;rw[iq,<-k3];have da:=DR k1;rw[List.length_take]at k2;clear p7 ou mo;(repeat' ((first|(apply AH<;>intro hc<;>try omega)|apply AD|refine S5 N (by assumption) (by omega) rfl (by first|rfl|omega|assumption) ?_)<;>conv=>whnf))
   refine FL v.length rfl (by omega) ?_;(conv=>whnf)
   refine FV (enc:=AJ) (λ_=>rfl) (by omega) ?_;(conv=>whnf)
   rw[List.drop_zero,Nat.sub_zero];(repeat' ((first|refine AG (yq) ?_|refine IJ (IY N o2 _ k1 (by omega)) ?_)<;>conv=>whnf))
   refine FV (enc:=AJ) (λ_=>rfl) (by omega) ?_;(conv=>whnf)
   refine AU ?_ (RJ _ _);rw[List.drop_zero,SX p5]
  ·have e3:((j+1:Nat):Int)-1=j:=by omega
   rw[e3];have e4:(v.length:Int).toNat=v.length:=by omega
   obtain ⟨A,W,C,hA,hW,rfl⟩:=dR o j (v.length+1) (by omega);obtain ⟨g1,g2,g3⟩:=dT hA hW p3 p6 sf;obtain ⟨D1,D2,D3⟩:=cZ p3;have vl:val W/val v<4294967296:=(Nat.div_lt_iff_lt_mul s8).2 g2;have Bv:val W=val W/val v*val v+val W%val v:=by rw[Nat.mul_comm];exact (Nat.div_add_mod _ _).symm
   have My:val W%val v<val v:=Nat.mod_lt _ s8;have sd:X*2^s=val A+4294967296^j*val W+4294967296^j*4294967296*(val (w.drop (j+1))*val v):=by
    rw[p7,Nat.mul_add,<-g3,Nat.pow_succ];omega
   have jl:=dS sd Bv;have ki : ∀ q',q'=val W/val v->val ((w.set j q').drop j)=val W/val v+4294967296*val (w.drop (j+1)):=λ q' h=>by
    rw[F3 (l:=w.set j q') (d:=q') (by rw[List.getElem?_set_self (by omega)]),List.drop_set_of_lt (by omega),h]
   have hlen : ∀ W':List Nat,W'.length=v.length+1->(A++W'++C).length=x.length+1:=λ W' h=>by
    rw[<-p2];simp [h,hW]
   (repeat' ((first|(apply AH<;>intro hc<;>try omega)|(apply A2;omega)|(apply nP;omega)|apply AD)<;>conv=>whnf))
   rw[show ((j:Int)+v.length+1).toNat-(j:Int).toNat=v.length+1 by omega,show 0+(j:Int).toNat=j by omega];refine rV N hA hW D2 aq bl nj s8 n2 g2 (λ W' o' q' z1 z2 z3 z4 => ?_) (λ W' o' q' z1 z2 z3 z4 => ?_)
   ·(conv=>whnf)
    (repeat' ((first|(apply BA;omega)|fail)<;>conv=>whnf))
    refine EA (by omega) ?_;(conv=>whnf)
    (repeat' ((first|(apply BN;omega)|fail)<;>conv=>whnf))
    obtain ⟨t1,t2⟩:=W8 (A:=A) (W:=W') (C:=C) (j:=j) hA g1;refine BJ [] (by (conv=>whnf);exact ⟨rfl,rfl,rfl⟩) (ih j (A++W'++C) (w.set j q') (by omega) ⟨by omega,hlen W' z1,(D1.append z2).append D3,by simpa using p4,p5.set _ (by omega),by omega,?_⟩);rw[t1,t2,ki q' z4,z3];exact jl
   ·(conv=>whnf)
    (repeat' ((first|(apply BA;omega)|fail)<;>conv=>whnf))
    refine EA (by omega) ?_;(conv=>whnf)
    (repeat' ((first|(apply BN;omega)|fail)<;>conv=>whnf))
    obtain ⟨t1,t2⟩:=W8 (A:=A) (W:=W') (C:=C) (j:=j) hA g1;refine BJ [] (by (conv=>whnf);exact ⟨rfl,rfl,rfl⟩) (ih j (A++W'++C) (w.set j q') (by omega) ⟨by omega,hlen W' z1,(D1.append z2).append D3,by simpa using p4,p5.set _ (by omega),by omega,?_⟩);rw[t1,t2,ki q' z4,z3];exact jl
end Go.c8
namespace Go.c8
open F
attribute [local irreducible] AA AF AX AB CQ AY BB A9 BS BR CX D9 BT A1 BP CK AC A5 AL pw C7 CE DM DF DP DU DY BQ DE
set_option maxHeartbeats 4000000
variable {L:Lib}
theorem aV {k':IntKind} {a:Int} {K:AV->Prop} (hk:K (.int .i64 (a/4294967296))):AB .shr .i64 a k' 32 K:=by
 refine aU (by omega) ?_;have:pw 32=4294967296:=by decide +kernel
 rw[this];exact hk
theorem aK {t:Int} {K:Int->Prop} (hk:K (RK t:Int)):AW .u32 t K:=by
 refine ⟨?_⟩;rw[IntKind.wrap_u32,<-WP];exact hk
section
variable {k':IntKind} {a b:Nat} {K:AV->Prop}
theorem oG {i:Nat} (hi:i<2) (ha:a<4294967296) (hk:K (.int .u64 ((a*4294967296^i:Nat):Int))):AB .shl .u64 (a:Int) k' (32*(i:Int)) K:=by
 rcases i with _|_|i
 ·exact MJ (s:=0) (by omega) (by omega) hk
 ·exact MJ (s:=32) (by omega) (by omega) hk
 ·omega
end
theorem gU {x y M N:Int} (hx : -M<=x/\x<=M) (hy : -N<=y/\y<=N) : -(M*N)<=x*y/\x*y<=M*N:=by
 have h1:x.natAbs<=M.natAbs:=by omega
 have h2:y.natAbs<=N.natAbs:=by omega
 have h3:=Nat.mul_le_mul h1 h2;rw[<-Int.natAbs_mul,<-Int.natAbs_mul]at h3;have h4:0<=M*N:=Int.mul_nonneg (by omega) (by omega);omega
theorem XG (N:a9 L) (a b:List Nat) (q1 q2:Bool) (hA:AR a) (hB:AR b) (la:a.length<=549755813888) (lb:b.length<=549755813888) (h0:val b≠0) :
  Ev L 75 [.sl q1 (a.map AJ),.sl q2 (b.map AJ)] (.e7 [.sl false ((dg (val a/val b)).map AJ),.sl false ((dg (val a%val b)).map AJ),.int .i64 0]):=by
 have l1:=DR hA;have l2:=DR hB;have hp:=RO h0;refine Ev.x N.J1 rfl rfl ?_;(repeat' ((first|(apply AH<;>intro hc<;>try omega)|apply AQ|apply AD|refine IJ (IY N a _ hA (by omega)) ?_|refine IJ (IY N b _ hB (by omega)) ?_|refine AG (XJ N _ _ _ _ h0 (by omega) (by omega)) ?_)<;>conv=>whnf))
 refine AU rfl ?_;simp only[AZ,CG,and_true,true_and];exact ⟨CR _,CR _⟩
theorem eT (N:a9 L) (V:Nat) (q:Bool) (hl:(dg V).length<=2):Ev L 76 [.sl q ((dg V).map AJ)] (.int .u64 (V:Int)):=by
 have hV:=L2.1 hl;have hD:=C3 V;have hv:=BF V;refine Ev.x N.KB rfl rfl ?_;generalize dg V=l at *;(repeat' ((first|apply AQ|apply AD)<;>conv=>whnf))
 refine IH (λ i _=>l.length-i) (λ(i:Nat) (a:Nat)=>i<=l.length/\a=val (l.take i)) (λ i a=>[(3,.int .u64 (a:Int)),(8,.int .i64 i)]) (λ_ _=>[]) 0 0 ⟨by omega,rfl⟩ ?_;intro i a ⟨p1,p2⟩ ih;by_cases hi:i<l.length
 ·obtain ⟨d,hd⟩ : ∃ d,l[i]? = some d:=⟨_,zE hi⟩
  have x5:=hD.at hd;have h1:=C5 hd;have h2:=DX (hD.take i);have h3:=DX (hD.take (i+1));rw[List.length_take,Nat.min_eq_left (by omega)]at h2 h3;have h4:4294967296^(i+1)<=4294967296^2:=Nat.pow_le_pow_right (by omega) (by omega);(repeat' ((first|(apply AH<;>intro hc<;>try omega)|(apply N7;omega)|(apply BV;omega)|(refine BH (by assumption) ?_ rfl ?_;omega)|apply AD)<;>conv=>whnf))
  refine oG (by omega) x5 ?_;(conv=>whnf)
  rw[Nat.mul_comm d];refine TB (32*i) (by rw[Nat.pow_mul];exact Nat.mul_mod_right _ _) (by rw[Nat.pow_mul,p2];exact h2) (by omega) ?_;(conv=>whnf)
  (repeat' ((first|(apply A2;omega)|fail)<;>conv=>whnf))
  exact BJ [] (by (conv=>whnf);exact ⟨rfl,rfl,rfl⟩) (ih (i+1) _ (by omega) ⟨by omega,by rw[h1,p2]⟩)
 ·obtain rfl:i=l.length:=by omega
  clear ih;(repeat' ((first|(apply AH<;>intro hc<;>try omega)|apply AD)<;>conv=>whnf))
  rw[CJ (Nat.le_refl _)]at p2;exact B9 (by omega)
theorem VZ {f:Nat} {vs:List AV} {tm:Tm} {M:Mem} {K:AV->Mem->Prop} {v:AV} (h:A5 L f vs tm M (λ r M'=>r=v/\M'=M)) (hk:K v M):A5 L f vs tm M K:=by
 unfold A5 at h ⊢;intro σ own hs;obtain ⟨r,j7,σ',M',h1,h2,h3,rfl,rfl⟩:=h σ own hs;exact ⟨_,j7,σ',_,h1,h2,h3,hk⟩
theorem eR (N:a9 L) (a:List Nat) (q:Bool) (n s:Nat) (hD:AR a) (hn:3<=n) (hl:a.length<=n) (Dh:n<=549755813888) (hs:s<=31) (k6:val a*2^s<4294967296^n) :
  Ev L 78 [.sl q (a.map AJ),.int .i64 (n:Int),.int .u64 (s:Int)] (.int .i64 ((val a/QC n s:Nat):Int)):=by
 have b1:=NJ hD (n-1);have b2:=NJ hD (n-2);have b3:=NJ hD (n-3);have oy:=hJ hD hn hl rfl rfl k6;have heq:=hH (s:=s) hD hn hl hs rfl rfl rfl;obtain ⟨f1,f2,f3,f4⟩:=PD (s:=s) b3 (by omega);refine Ev.x N.J8 rfl rfl ?_;(repeat' ((first|(apply BA;omega)|(apply BN;omega)|apply AD)<;>conv=>whnf))
 refine VZ (v := .int .u64 ((a.getD (n-1) 0:Nat):Int)) ?_ ?_
 ·refine FA 1000 N.G0 rfl rfl ?_
  (repeat' ((first|(apply AH<;>intro hc<;>try omega)|(apply BV;omega)|apply AQ|(refine NA (by assumption) ?_ (λ e he hb => ?_);omega)|apply AD)<;>conv=>whnf))
  ·refine ⟨rfl,_,rfl,?_,rfl⟩
   rw[show ((n:Int)-1).toNat=n-1 by omega]at he;rw[FN he];rfl
  ·refine ⟨rfl,_,rfl,?_,rfl⟩
   rw[<-NK (show a.length<=n-1 by omega)];rfl
 (conv=>whnf)
 (repeat' ((first|(apply BA;omega)|(apply BN;omega)|(apply LV;omega))<;>conv=>whnf))
 refine VZ (v := .int .u64 ((a.getD (n-2) 0:Nat):Int)) ?_ ?_
 ·refine FA 1000 N.G0 rfl rfl ?_
  (repeat' ((first|(apply AH<;>intro hc<;>try omega)|(apply BV;omega)|apply AQ|(refine NA (by assumption) ?_ (λ e he hb => ?_);omega)|apply AD)<;>conv=>whnf))
  ·refine ⟨rfl,_,rfl,?_,rfl⟩
   rw[show ((n:Int)-2).toNat=n-2 by omega]at he;rw[FN he];rfl
  ·refine ⟨rfl,_,rfl,?_,rfl⟩
   rw[<-NK (show a.length<=n-2 by omega)];rfl
 (conv=>whnf)
 generalize a.getD (n-1) 0=d1 at *;generalize a.getD (n-2) 0=d2 at *;(repeat' ((first|(apply MH;omega)|fail)<;>conv=>whnf))
 refine MJ (by omega) oy ?_;(conv=>whnf)
 generalize hT:(d1*4294967296+d2)*2^s=T at *;(repeat' ((first|(apply BA;omega)|(apply BN;omega))<;>conv=>whnf))
 refine VZ (v := .int .u64 ((a.getD (n-3) 0:Nat):Int)) ?_ ?_
 ·refine FA 1000 N.G0 rfl rfl ?_
  (repeat' ((first|(apply AH<;>intro hc<;>try omega)|(apply BV;omega)|apply AQ|(refine NA (by assumption) ?_ (λ e he hb => ?_);omega)|apply AD)<;>conv=>whnf))
  ·refine ⟨rfl,_,rfl,?_,rfl⟩
   rw[show ((n:Int)-3).toNat=n-3 by omega]at he;rw[FN he];rfl
  ·refine ⟨rfl,_,rfl,?_,rfl⟩
   rw[<-NK (show a.length<=n-3 by omega)];rfl
 (conv=>whnf)
 generalize a.getD (n-3) 0=d3 at *;skip
 refine MJ (by omega) f4 ?_;(conv=>whnf)
 (repeat' (apply EF<;>conv=>whnf))
 rw[PC]at f2;refine aS s (by rw[<-hT];exact Nat.mul_mod_left _ _) f2 (by have:=US (k:=d1*4294967296+d2) (show s<=64 by omega) (by omega);omega) ?_;(conv=>whnf)
 (repeat' ((first|apply oD|(apply N0;omega))<;>conv=>whnf))
 rw[heq];exact B9 rfl
theorem vN (N:a9 L) (P Q:Int) (hP:0<=P/\P<=4611686018427387904) (hQ:0<=Q/\Q<=4611686018427387904) : ∃ r,Ev L 79 [.int .i64 P,.int .i64 Q] r /\ ∃ a b c d:Int,(V3 a b c d/\(-2147483647<=a/\a<=2147483647)/\(-2147483647<=b/\b<=2147483647)/\(-2147483647<=c/\c<=2147483647)/\(-2147483647<=d/\d<=2147483647))/\(b≠0->Q5 P Q a b c d)/\r = .e7 [.int .i64 a,.int .i64 b,.int .i64 c,.int .i64 d]:=by
 refine Ev.xE N.J5 rfl rfl ?_;(repeat' (apply AD<;>conv=>whnf))
 refine mK (λ_ _ _ _ _ q=>(q+2147483648).toNat) (λ(a b c d p q:Int)=>N5 P Q a b c d p q/\((-2147483647<=a/\a<=2147483647)/\(-2147483647<=b/\b<=2147483647)/\(-2147483647<=c/\c<=2147483647)/\(-2147483647<=d/\d<=2147483647))/\(p<=4611686018427387904/\q<=4611686018427387904)/\PQ P Q a b c d/\(b≠0->Q5 P Q a b c d)) (λ a b c d p q=>[(0,.int .i64 p),(1,.int .i64 q),(4,.int .i64 a),(5,.int .i64 b),(6,.int .i64 c),(7,.int .i64 d)]) (λ_ _ _ _ _ _=>[]) [] [] 1 0 0 1 P Q (by (conv=>whnf);exact ⟨rfl,rfl,rfl⟩) ⟨N5.start hP.1 hQ.1,by omega,by omega,PQ.start P Q,λ h=>absurd rfl h⟩ ?_;intro a b c d p q ⟨p1,⟨⟨p2,Rs⟩,⟨p3,Rt⟩,⟨p4,Ru⟩,⟨p5,Rv⟩⟩,⟨p6,p7⟩,p8,p9⟩ ih;have g1:=p1.pa;have g2:=p1.pb;have g3:=p1.qc;have g4:=p1.qd;by_cases ct:q+c=0
 ·(repeat' ((first|(apply AH<;>intro hc<;>try omega)|(apply A2;omega)|apply AD)<;>conv=>whnf))
  refine ⟨.e7 [.int .i64 a,.int .i64 b,.int .i64 c,.int .i64 d],?_,a,b,c,d,⟨p1.sg,by omega⟩,p9,rfl⟩;(conv=>whnf)
  exact AU rfl (by simp [AZ,CG])
 by_cases vd:q+d=0
 ·(repeat' ((first|(apply AH<;>intro hc<;>try omega)|(apply A2;omega)|apply AD)<;>conv=>whnf))
  refine ⟨.e7 [.int .i64 a,.int .i64 b,.int .i64 c,.int .i64 d],?_,a,b,c,d,⟨p1.sg,by omega⟩,p9,rfl⟩;(conv=>whnf)
  exact AU rfl (by simp [AZ,CG])
 by_cases Nq:(p+a)/(q+c)=(p+b)/(q+d)
 ·obtain ⟨s1,s2,s3,s4⟩:=p1.step ct vd rfl Nq
  have s5:=s4 p8;have s6:=s5.half;have s7:=s1.qc;by_cases dt:2147483647<(p+a)/(q+c)
  ·(repeat' ((first|(apply AH<;>intro hc<;>try omega)|(apply A2;omega)|(refine PT ?_ ?_ (λ_ => ?_) (λ_ _ => ?_);omega;omega;all_goals try omega)|apply AD)<;>conv=>whnf))
   refine ⟨.e7 [.int .i64 a,.int .i64 b,.int .i64 c,.int .i64 d],?_,a,b,c,d,⟨p1.sg,by omega⟩,p9,rfl⟩;(conv=>whnf)
   exact AU rfl (by simp [AZ,CG])
  ·have t1:=gU (x:=(p+a)/(q+c)) (y:=c) (M:=2147483647) (N:=2147483647) (by omega) (by omega)
   have t2:=gU (x:=(p+a)/(q+c)) (y:=d) (M:=2147483647) (N:=2147483647) (by omega) (by omega);(repeat' ((first|(apply AH<;>intro hc<;>try omega)|(apply A2;omega)|(apply BN;omega)|(apply N7;omega)|(refine PT ?_ ?_ (λ_ => ?_) (λ_ _ => ?_);omega;omega;all_goals try omega)|(apply CQ.neg;omega)|apply AD)<;>conv=>whnf))
   all_goals first
    | exact BJ [] (by (conv=>whnf);exact ⟨rfl,rfl,rfl⟩) (ih _ _ _ _ _ _ (by omega) ⟨s1,by omega,by omega,s6,λ_=>s5⟩)
    |(refine ⟨.e7 [.int .i64 a,.int .i64 b,.int .i64 c,.int .i64 d],?_,a,b,c,d,⟨p1.sg,by omega⟩,p9,rfl⟩
      (conv=>whnf)
      exact AU rfl (by simp [AZ,CG]))
 ·(repeat' ((first|(apply AH<;>intro hc<;>try omega)|(apply A2;omega)|(refine PT ?_ ?_ (λ_ => ?_) (λ_ _ => ?_);omega;omega;all_goals try omega)|apply AD)<;>conv=>whnf))
  refine ⟨.e7 [.int .i64 a,.int .i64 b,.int .i64 c,.int .i64 d],?_,a,b,c,d,⟨p1.sg,by omega⟩,p9,rfl⟩;(conv=>whnf)
  exact AU rfl (by simp [AZ,CG])
theorem vO (N:a9 L) (x y:List Nat) (q1 q2:Bool) (f g:Int) (hX:AR x) (hY:AR y) (hl:y.length<=x.length) (lx:x.length<=549755813888) (hs:M8 f g) (R:Nat) (hR:(R:Int)=f*val x+g*val y) (Fo:R<=val x) :
  Ev L 80 [.sl q1 (x.map AJ),.sl q2 (y.map AJ),.int .i64 f,.int .i64 g] (.sl false ((dg R).map AJ)):=by
 refine Ev.x N.J6 rfl rfl ?_;(repeat' ((first|apply AQ|apply AD)<;>conv=>whnf))
 refine DQ (enc:=AJ) 0 x.length rfl rfl (by omega) ?_;(conv=>whnf)
 (repeat' (apply AQ<;>conv=>whnf))
 refine E9 (λ i _ _=>x.length-i) (λ(i:Nat) (o:List Nat) (c:Int)=>i<=x.length/\o.length=x.length/\AR o /\ -2147483648<=c/\c<=2147483648/\(val (o.take i):Int)+((4294967296^i:Nat):Int)*c=f*val (x.take i)+g*val (y.take i)) (λ i o c=>[(10,.int .i64 c),(19,.int .i64 i)]) (λ i o c=>[(16,16,.rw 1 (o.map AJ))]) 0 (List.replicate x.length 0) 0 ⟨by omega,by simp,HP _,by omega,by omega,by simp [val]⟩ ?_;intro i o c ⟨p1,p2,p3,p4,p5,p6⟩ ih;by_cases hi:i<x.length
 ·obtain ⟨d,hd⟩ : ∃ d,x[i]? = some d:=⟨_,zE hi⟩
  have x5:=hX.at hd;have h1:=C5 hd;by_cases hy:i<y.length
  ·obtain ⟨e,he⟩ : ∃ e,y[i]? = some e:=⟨_,zE hy⟩
   have Co:=hY.at he;have h2:=C5 he;obtain ⟨r1,r2,r3⟩:=hs.Hu x5 Co;have g8:=cM (d:=d) (e:=e) p6 rfl;(repeat' ((first|(apply AH<;>intro hc<;>try omega)|(apply A2;omega)|(apply N7;omega)|(apply N0;omega)|apply AQ|(refine BH (by assumption) ?_ rfl ?_;omega)|apply AD)<;>conv=>whnf))
   generalize Pm:f * ↑d+c+g * ↑e=t at *;refine aK ?_;(conv=>whnf)
   (repeat' ((first|(apply BA;omega)|fail)<;>conv=>whnf))
   refine EA (by omega) ?_;(conv=>whnf)
   refine aV ?_;(conv=>whnf)
   (repeat' ((first|(apply A2;omega)|fail)<;>conv=>whnf))
   refine BJ [] (by (conv=>whnf);exact ⟨rfl,rfl,rfl⟩) (ih (i+1) _ _ (by omega) ⟨by omega,by simpa using p2,p3.set _ (cL t),by omega,by omega,?_⟩);rw[E3 (by omega),h1,h2,Nat.pow_succ];simp only[Int.natCast_add,Int.natCast_mul,WP];exact g8
  ·have h2:=VV (y:=y) (i:=i) (by omega)
   obtain ⟨r1,r2,r3⟩:=hs.Hu (e:=0) x5 (by omega);have g8:=cM (d:=d) (e:=0) p6 rfl;rw[Int.mul_zero,Int.add_zero]at g8;have r4 : -9223372030412324865<=f*(d:Int)/\f*(d:Int)<=9223372030412324865:=r1;(repeat' ((first|(apply AH<;>intro hc<;>try omega)|(apply A2;omega)|(apply N7;omega)|(apply N0;omega)|apply AQ|(refine BH (by assumption) ?_ rfl ?_;omega)|apply AD)<;>conv=>whnf))
   generalize Pm:f * ↑d+c=t at *;refine aK ?_;(conv=>whnf)
   (repeat' ((first|(apply BA;omega)|fail)<;>conv=>whnf))
   refine EA (by omega) ?_;(conv=>whnf)
   refine aV ?_;(conv=>whnf)
   (repeat' ((first|(apply A2;omega)|fail)<;>conv=>whnf))
   refine BJ [] (by (conv=>whnf);exact ⟨rfl,rfl,rfl⟩) (ih (i+1) _ _ (by omega) ⟨by omega,by simpa using p2,p3.set _ (cL t),by omega,by omega,?_⟩);rw[E3 (by omega),h1,h2,Nat.pow_succ];simp only[Int.natCast_add,Int.natCast_mul,WP];rw[Int.mul_zero,Int.add_zero]at g8;exact g8
 ·obtain rfl:i=x.length:=by omega
  clear ih;rw[CJ (by omega),CJ (Nat.le_refl _),CJ (by omega)]at p6;have Gn:=DX p3;have Rq:=DX hX;rw[p2]at Gn;have Mx:val o=R:=by
   have:=qZ Gn p6 (by omega) (by omega)
   omega
  have fo:=DR p3;rw[<-p2,<-Mx];(repeat' ((first|(apply AH<;>intro hc<;>try omega)|apply AD|refine S5 N (by assumption) (by omega) rfl (by first|rfl|omega|assumption) ?_)<;>conv=>whnf))
  refine FV (enc:=AJ) (λ_=>rfl) (by omega) ?_;(conv=>whnf)
  refine AU ?_ (by simp only[AZ,true_and];exact CR _);rw[List.drop_zero,SX p3]
theorem vR (N:a9 L) (X Y:Nat) (mf:Y<=X) (hy:3<=(dg Y).length) (lx:(dg X).length<=549755813888) : ∃ r,Ev L 81 [.sl false ((dg X).map AJ),.sl false ((dg Y).map AJ)] r /\ ∃ A B:Nat,(B<Y/\B<=A/\A<=X/\Nat.gcd A B=Nat.gcd X Y)/\r = .e7 [.sl false ((dg A).map AJ),.sl false ((dg B).map AJ)]:=by
 have Na:Y≠0:=λ h=>by rw[h,DZ]at hy;simp at hy
 have ou:X≠0:=by omega
 have hlen:=NG mf;have Ae:=λ q q'=>XJ N X Y q q' Na lx (by omega)
 have d1:=C3 X;have d2:=C3 Y;have v1:=BF X;have v2:=BF Y;obtain ⟨xt,Er,Es⟩:=W2 ou;have zm:=d1.at Er;obtain ⟨b1,b2,b3,b4⟩:=YK Es zm;have yb:=eC N xt zm;generalize hs:32-l9 xt=s at *;have w9:s<=31:=by omega
 obtain ⟨n1,n2⟩:=YC d1 Er (by omega) w9 b3 b4;have ta:=λ(f g:Int) (R:Nat) (hs:M8 f g) (h1:(R:Int)=f*val (dg X)+g*val (dg Y)) (h2:R<=val (dg X)) (q q':Bool)=>vO N (dg X) (dg Y) q q' f g d1 d2 (by omega) lx hs R h1 h2
 have n3:val (dg Y)*2^s<4294967296^(dg X).length:=Nat.lt_of_le_of_lt (zR _ (by omega)) n1;have fo:=λ q=>eR N (dg X) q (dg X).length s d1 (by omega) (by omega) lx w9 n1
 have da:=λ q=>eR N (dg Y) q (dg X).length s d2 (by omega) (by omega) lx w9 n3
 have hK:=zG (dg X).length s;obtain ⟨e1,x1,x2,x3⟩:=iB (V:=X) hK;obtain ⟨e2,y1,y2,y3⟩:=iB (V:=Y) hK;rw[v1]at fo;rw[v2]at da;have qw:=iA d1 (n:=(dg X).length) (by omega) (by omega) w9 n1;have vk:=iA d2 (n:=(dg X).length) (by omega) (by omega) w9 n3;rw[v1]at qw;rw[v2]at vk;generalize QC (dg X).length s=K at *;generalize X/K=P at *;generalize Y/K=Q at *;rw[v1,v2]at ta;obtain ⟨rc,Gp,a,b,c,d,⟨z1,z2,z3,z4,z5⟩,z6,rfl⟩:=vN N (P:Int) (Q:Int) (by omega) (by omega);have e1:(((dg X).length:Int)-1).toNat=(dg X).length-1:=by omega
 rw[<-e1]at Er;refine Ev.xE N.KA rfl rfl ?_;by_cases hb:b=0
 ·(repeat' ((first|(apply AH<;>intro hc<;>try omega)|(apply BN;omega)|(apply BV;omega)|apply AQ|(refine BH (by assumption) ?_ rfl ?_;omega)|apply AD|refine AG (yb) ?_|refine AG (fo _) ?_|refine AG (da _) ?_|refine AG (Gp) ?_|refine AG (Ae _ _) ?_)<;>conv=>whnf))
  refine ⟨_,?_,Y,X%Y,⟨Nat.mod_lt _ (by omega),Nat.le_of_lt (Nat.mod_lt _ (by omega)),mf,R2 X Y⟩,rfl⟩;(conv=>whnf)
  exact AU rfl (RJ _ _)
 ·obtain ⟨g1,g2,g3,g4⟩:=z6 hb (X:Int) (Y:Int) (K:Int) _ _ (by omega) x1 y1 x2 x3 y2 y3
  obtain ⟨A,hA⟩:=Int.eq_ofNat_of_zero_le (show 0<=a*X+b*Y by omega);obtain ⟨B,hB⟩:=Int.eq_ofNat_of_zero_le g1;have s1:M8 a b:=by rcases z1 with ⟨h1,h2,h3,h4⟩|⟨h1,h2,h3,h4⟩<;>unfold M8<;>omega
  have s2:M8 c d:=by rcases z1 with ⟨h1,h2,h3,h4⟩|⟨h1,h2,h3,h4⟩<;>unfold M8<;>omega
  (repeat' ((first|(apply AH<;>intro hc<;>try omega)|(apply BN;omega)|(apply BV;omega)|apply AQ|(refine BH (by assumption) ?_ rfl ?_;omega)|apply AD|refine AG (yb) ?_|refine AG (fo _) ?_|refine AG (da _) ?_|refine AG (Gp) ?_|refine AG (ta a b A s1 hA.symm (by omega) _ _) ?_|refine AG (ta c d B s2 hB.symm (by omega) _ _) ?_)<;>conv=>whnf))
  rw[hA,hB]at g4;rw[hA,hB]at g2;refine ⟨_,?_,A,B,⟨by omega,by omega,by omega,by simpa using g4⟩,rfl⟩;(conv=>whnf)
  exact AU rfl (RJ _ _)
theorem gE (N:a9 L) (X Y:Nat) (mf:Y<=X) (lx:(dg X).length<=549755813888) :
 AA L [It.lp FP.l1,It.c7 0,
   It.code
    ((((A8.ops FP.r6 false).dr [23,30,31] []).seq
       (A8.cond 32 (((A8.ops FP.r7 false).dr [5,6,32,33] []).seq A8.ret) A8.skip)).seq
     (((A8.ops FP.r8 false).dr [5,7,32,34,35,36,37,38,39] []).seq
      (((A8.ops FP.r9 false).dr [6,8,40,41,42,43] []).seq
       ((A8.block 2 FP.l2.loop).seq
        (((A8.ops FP.s9 false).dr [9,10,45,50,51,52,53,54,55,56] []).seq A8.ret)))))]
  [(6,AV.sl false (List.map AJ (dg Y))),(5,AV.sl false (List.map AJ (dg X)))] []
  (NC FP (AV.sl false (List.map AJ (dg (X.gcd Y))))):=by
 refine IH (λ_ y=>y) (λ(x y:Nat)=>y<=x/\(dg x).length<=549755813888/\Nat.gcd x y=Nat.gcd X Y) (λ x y=>[(6,AV.sl false (List.map AJ (dg y))),(5,AV.sl false (List.map AJ (dg x)))]) (λ_ _=>[]) X Y ⟨mf,lx,rfl⟩ ?_;intro x y ⟨p1,p2,p3⟩ ih;rw[<-p3]at ih ⊢;generalize Nat.gcd X Y=G at *;clear mf lx;subst p3;have hlen:=NG p1;by_cases h3:3<=(dg y).length
 ·obtain ⟨r,hr,A,B,⟨k1,k2,k3,k4⟩,rfl⟩:=vR N x y p1 h3 p2
  have k5:=NG k3;(repeat' ((first|(apply AH<;>intro hc<;>try omega)|apply AQ|apply AD|refine AG (hr) ?_)<;>conv=>whnf))
  exact B2 [] (ih A B k1 ⟨k2,by omega,k4⟩)
 ·clear ih
  by_cases h0:y=0
  ·subst h0
   have nv:(dg 0).length=0:=by rw[DZ];rfl
   (repeat' ((first|(apply AH<;>intro hc<;>try omega)|apply AQ|apply AD)<;>conv=>whnf))
   rw[Nat.gcd_zero_right];exact AU rfl (by simp only[AZ,true_and];exact CR _)
  ·have hp:=RO h0
   have hm:=NG (Nat.le_of_lt (Nat.mod_lt x (show y>0 by omega)));have hd:=λ q q'=>XJ N x y q q' h0 p2 (by omega)
   have Ap:=λ q=>eT N y q (by omega)
   have uc:=λ q=>eT N (x%y) q (by omega)
   have hb:y<18446744073709551616:=L2.1 (show (dg y).length<=2 by omega);have lg:x%y<y:=Nat.mod_lt _ (by omega);rw[<-R2 x y];(repeat' ((first|(apply AH<;>intro hc<;>try omega)|apply AQ|apply AD|refine AG (hd _ _) ?_|refine AG (Ap _) ?_|refine AG (uc _) ?_)<;>conv=>whnf))
   refine S2 (λ_ q=>q) (λ(p q:Nat)=>p<18446744073709551616/\q<18446744073709551616/\Nat.gcd p q=Nat.gcd y (x%y)) (λ p q=>[(9,.int .u64 (p:Int)),(10,.int .u64 (q:Int))]) (λ_ _=>[]) [] [] y (x%y) (by (conv=>whnf);exact ⟨rfl,rfl,rfl⟩) ⟨hb,by omega,rfl⟩ ?_;intro p q ⟨g1,g2,g3⟩ ih;rw[<-g3]at ih ⊢;by_cases hq:q=0
   ·subst hq
    clear ih;obtain ⟨v1,v2⟩:=WZ g1;rw[Nat.gcd_zero_right];have fo:=DR v2;have ht:=SX v2;rw[v1]at fo ht;(repeat' ((first|(apply AH<;>intro hc<;>try omega)|apply EF|(apply DD;omega)|apply ET|apply AD)<;>conv=>whnf))
    generalize p%4294967296=lo at *;generalize p/4294967296=hi at *;refine S5 N v2 (by simp) rfl rfl ?_;rw[v1];(conv=>whnf)
    skip
    refine FV (enc:=AJ) (l:=[lo,hi]) (λ_=>rfl) (by omega) ?_;(conv=>whnf)
    refine AU ?_ (by simp only[AZ,true_and];exact CR _);rw[List.drop_zero,ht]
   ·have Oz:p%q<q:=Nat.mod_lt _ (by omega)
    (repeat' ((first|(apply AH<;>intro hc<;>try omega)|(apply Q7;omega)|apply AD)<;>conv=>whnf))
    exact B2 [] (ih q (p%q) Oz ⟨g2,by omega,R2 p q⟩)
theorem vL (N:a9 L) (a b:List Nat) (q1 q2:Bool) (hA:AR a) (hB:AR b) (la:a.length<=549755813888) (lb:b.length<=549755813888) :
  Ev L 82 [.sl q1 (a.map AJ),.sl q2 (b.map AJ)] (.sl false ((dg (Nat.gcd (val a) (val b))).map AJ)):=by
 have t1:=λ q=>RT N a q hA (by omega)
 have t2:=λ q=>RT N b q hB (by omega)
 have l1:=DR hA;have l2:=DR hB;have j6:=λ q q'=>OR N (dg (val a)) (dg (val b)) q q' (C3 _) (C3 _) (by omega) (by omega)
 rw[BF,BF]at j6;generalize val a=X at *;generalize val b=Y at *;refine Ev.x N.FP rfl rfl ?_;by_cases k6:X<Y
 ·have hn:CM X Y = -1:=(GV (by omega)).symm
  rw[hn]at j6;(repeat' ((first|(apply AH<;>intro hc<;>try omega)|apply AD|refine AG (t1 _) ?_|refine AG (t2 _) ?_|refine AG (j6 _ _) ?_)<;>conv=>whnf))
  rw[Nat.gcd_comm];exact BJ [] (by (conv=>whnf);exact ⟨rfl,rfl,rfl⟩) (gE N Y X (by omega) (by omega))
 ·have iu:0<=CM X Y:=by unfold CM;split<;>(try split)<;>omega
  generalize CM X Y=cm at *;(repeat' ((first|(apply AH<;>intro hc<;>try omega)|apply AD|refine AG (t1 _) ?_|refine AG (t2 _) ?_|refine AG (j6 _ _) ?_)<;>conv=>whnf))
  exact BJ [] (by (conv=>whnf);exact ⟨rfl,rfl,rfl⟩) (gE N X Y (by omega) (by omega))
end Go.c8

namespace Go.c8
open F
attribute [local irreducible] AA AF AX AB CQ AY BB A9 BS BR CX D9 BT A1 BP CK AC A5 AL pw C7 CE DM DF DP DU DY BQ DE
variable {L:Lib}
set_option maxHeartbeats 8000000
theorem nV {k:Nat} {K:Int->Prop} (h:0<k/\k<=9223372036854775808) (hk:K ((18446744073709551616-k:Nat):Int)):AW .u64 (-(k:Int)) K:=by
 refine ⟨?_⟩;have e:IntKind.u64.wrap (-(k:Int))=((18446744073709551616-k:Nat):Int):=by
  simp [IntKind.wrap,IntKind.bits,IntKind.signed];omega
 rw[e];exact hk
theorem CQ.zs {k:Nat} {K:AV->Prop} (h:0<k/\k<=9223372036854775808) (hk:K (.int .u64 (k:Int))):CQ .neg .u64 ((18446744073709551616-k:Nat):Int) K:=by
 refine CQ.go (v := .int .u64 (IntKind.u64.wrap (0-((18446744073709551616-k:Nat):Int)))) rfl ?_;have e:IntKind.u64.wrap (0-((18446744073709551616-k:Nat):Int))=(k:Int):=by
  simp [IntKind.wrap,IntKind.bits,IntKind.signed];omega
 rw[e];exact hk
theorem XF (N:a5 L) (z:Int) (hz : -9223372036854775808<=z/\z<=9223372036854775807):Ev L 85 [.int .i64 z] (.agg (eZ z)):=by
 have two : ∀ k:Nat,k<18446744073709551616 -> ∀ q,Ev L 66 [.sl q [[.int .u32 ((k%4294967296:Nat):Int)],[.int .u32 ((k/4294967296:Nat):Int)]]] (.sl false ((dg k).map AJ)):=λ k hk q=>by
  have:=RT N.toa9 [k%4294967296,k/4294967296] q (WZ hk).2 (by simp)
  rw[lW hk]at this;exact this
 refine Ev.x N.JP rfl rfl ?_;by_cases h0:0<=z
 ·obtain ⟨k,rfl⟩:=Int.eq_ofNat_of_zero_le h0
  have hT:=two k (by omega);have z1:=GX k;(repeat' ((first|(apply AH<;>intro hc<;>try omega)|apply EF|(apply BV;omega)|(apply DD;omega)|apply ET|refine TH rfl rfl ?_|apply AD)<;>conv=>whnf))
  generalize k%4294967296=lo at *;generalize k/4294967296=hi at *;(repeat' (refine AG (hT _) ?_<;>conv=>whnf))
  refine ES 1000 N.CO rfl rfl ?_;(repeat' (apply AD<;>conv=>whnf))
  all_goals (refine ⟨rfl,?_⟩;(conv=>whnf);skip)
  exact AU (DN (by omega) (FG (by omega))) (CW _)
 ·obtain ⟨k,hk⟩:=Int.eq_ofNat_of_zero_le (show 0 <= -z by omega)
  obtain rfl:z = -(k:Int):=by omega
  have hT:=two k (by omega);have z1:=GX k;(repeat' (apply AD<;>conv=>whnf))
  refine nV (by omega) ?_;(conv=>whnf)
  (repeat' ((first|(apply AH<;>intro hc<;>try omega)|fail)<;>conv=>whnf))
  refine CQ.zs (by omega) ?_;(conv=>whnf)
  (repeat' ((first|(apply AH<;>intro hc<;>try omega)|apply EF|(apply DD;omega)|apply ET|refine TH rfl rfl ?_)<;>conv=>whnf))
  generalize k%4294967296=lo at *;generalize k/4294967296=hi at *;(repeat' (refine AG (hT _) ?_<;>conv=>whnf))
  refine ES 1000 N.CO rfl rfl ?_;(repeat' ((first|(apply AH<;>intro hc<;>try omega)|apply AQ|apply AD)<;>conv=>whnf))
  all_goals (refine ⟨rfl,?_⟩;(conv=>whnf);skip)
  exact AU (DN (by omega) (LR (by omega))) (CW _)
theorem eK (N:a5 L) (n q:Bool) (m:List Nat) (hm:Sm 549755813888 m):Ev L 84 [.agg (rZ q n m)] (.agg (eZ (zv n m))):=by
 have hT:=λ q=>RT N.toa9 m q hm.1 (by have:=hm.2;omega)
 have hz:=GX (val m);have ha:=D8 n m;refine Ev.x N.JR rfl rfl ?_;cases n
 ·rw[EE]at *
  (repeat' ((first|apply AD|refine AG (hT _) ?_)<;>conv=>whnf))
  refine ES 1000 N.CO rfl rfl ?_;(repeat' (apply AD<;>conv=>whnf))
  all_goals (refine ⟨rfl,?_⟩;(conv=>whnf);skip)
  exact AU (DN ha.symm (FG (by omega))) (CW _)
 ·rw[ME]at *
  (repeat' ((first|apply AD|refine AG (hT _) ?_)<;>conv=>whnf))
  refine ES 1000 N.CO rfl rfl ?_;(repeat' ((first|(apply AH<;>intro hc<;>try omega)|apply AQ|apply AD)<;>conv=>whnf))
  all_goals (refine ⟨rfl,?_⟩;(conv=>whnf);skip)
  ·exact AU (DN ha.symm (LR (by omega))) (CW _)
  ·exact AU (DN ha.symm (FG (by omega))) (CW _)
theorem vB (N:a5 L) (n q:Bool) (m:List Nat) (hm:Sm 549755813888 m):Ev L 86 [.agg (rZ q n m)] (.int .i64 (v5 (zv n m))):=by
 have j6:=λ q q'=>OR N.toa9 m [] q q' hm.1 P2 (by have:=hm.2;omega) (by simp)
 rw[HL]at j6;refine Ev.x N.JQ rfl rfl ?_;by_cases h0:val m=0
 ·have hn:CM (val m) (0:Nat)=0:=(OH (by omega)).symm
  rw[hn]at j6;(repeat' ((first|(apply AH<;>intro hc<;>try omega)|apply AD|refine AG (j6 _ _) ?_)<;>conv=>whnf))
  exact B9 (VI (by have:=D8 n m;omega))
 ·have hn:CM (val m) (0:Nat)=1:=(L1 (by omega)).symm
  rw[hn]at j6;cases n
  ·(repeat' ((first|(apply AH<;>intro hc<;>try omega)|apply AD|refine AG (j6 _ _) ?_)<;>conv=>whnf))
   exact B9 (kL (by rw[EE];omega))
  ·(repeat' ((first|(apply AH<;>intro hc<;>try omega)|apply AD|refine AG (j6 _ _) ?_)<;>conv=>whnf))
   exact B9 (kK (by rw[ME];omega))
theorem eJ (N:a5 L) (n1 n2 q1 q2:Bool) (a b:List Nat) (ha:Sm 549755813888 a) (hb:Sm 549755813888 b):Ev L 87 [.agg (rZ q1 n1 a),.agg (rZ q2 n2 b)] (.agg (eZ (zv n1 a+zv n2 b))):=by
 have la:=ha.2;have lb:=hb.2;have h1:=λ q q'=>vK N.toa9 a b q q' ha.1 hb.1 (by omega) (by omega)
 have h2:=λ q q'=>eP N.toa9 a b q q' ha.1 hb.1 (by omega) (by omega)
 have h3:=λ q q'=>eP N.toa9 b a q q' hb.1 ha.1 (by omega) (by omega)
 have j6:=λ q q'=>OR N.toa9 a b q q' ha.1 hb.1 (by omega) (by omega)
 have z1:=GX (val a+val b);have z2:=GX (val a-val b);have z3:=GX (val b-val a);refine Ev.x N.JN rfl rfl ?_;by_cases k6:val a<val b
 ·have hn:CM (val a) (val b) = -1:=(GV (by omega)).symm
  rw[hn]at j6;cases n1<;>cases n2<;>simp only[EE,ME]
  ·(repeat' ((first|apply AD|refine AG (h1 _ _) ?_)<;>conv=>whnf))
   refine ES 1000 N.CO rfl rfl ?_;(repeat' (apply AD<;>conv=>whnf))
   all_goals (refine ⟨rfl,?_⟩;(conv=>whnf);skip)
   exact AU (DN (by omega) (FG (by omega))) (CW _)
  ·(repeat' ((first|(apply AH<;>intro hc<;>try omega)|apply AD|refine AG (h3 _ _) ?_|refine AG (j6 _ _) ?_)<;>conv=>whnf))
   refine ES 1000 N.CO rfl rfl ?_;(repeat' ((first|(apply AH<;>intro hc<;>try omega)|apply AQ|apply AD)<;>conv=>whnf))
   all_goals (refine ⟨rfl,?_⟩;(conv=>whnf);skip)
   ·exact AU (DN (by omega) (LR (by omega))) (CW _)
  ·(repeat' ((first|(apply AH<;>intro hc<;>try omega)|apply AD|refine AG (h3 _ _) ?_|refine AG (j6 _ _) ?_)<;>conv=>whnf))
   refine ES 1000 N.CO rfl rfl ?_;(repeat' (apply AD<;>conv=>whnf))
   all_goals (refine ⟨rfl,?_⟩;(conv=>whnf);skip)
   ·exact AU (DN (by omega) (FG (by omega))) (CW _)
  ·(repeat' ((first|apply AD|refine AG (h1 _ _) ?_)<;>conv=>whnf))
   refine ES 1000 N.CO rfl rfl ?_;(repeat' ((first|(apply AH<;>intro hc<;>try omega)|apply AQ|apply AD)<;>conv=>whnf))
   all_goals (refine ⟨rfl,?_⟩;(conv=>whnf);skip)
   ·exact AU (DN (by omega) (LR (by omega))) (CW _)
 ·have hn:CM (val a) (val b) ≠ -1:=by unfold CM;split<;>(try split)<;>omega
  generalize CM (val a) (val b)=cm at *;cases n1<;>cases n2<;>simp only[EE,ME]
  ·(repeat' ((first|apply AD|refine AG (h1 _ _) ?_)<;>conv=>whnf))
   refine ES 1000 N.CO rfl rfl ?_;(repeat' (apply AD<;>conv=>whnf))
   all_goals (refine ⟨rfl,?_⟩;(conv=>whnf);skip)
   exact AU (DN (by omega) (FG (by omega))) (CW _)
  ·(repeat' ((first|(apply AH<;>intro hc<;>try omega)|apply AD|refine AG (h2 _ _) ?_|refine AG (j6 _ _) ?_)<;>conv=>whnf))
   refine ES 1000 N.CO rfl rfl ?_;(repeat' (apply AD<;>conv=>whnf))
   all_goals (refine ⟨rfl,?_⟩;(conv=>whnf);skip)
   exact AU (DN (by omega) (FG (by omega))) (CW _)
  ·(repeat' ((first|(apply AH<;>intro hc<;>try omega)|apply AD|refine AG (h2 _ _) ?_|refine AG (j6 _ _) ?_)<;>conv=>whnf))
   refine ES 1000 N.CO rfl rfl ?_;(repeat' ((first|(apply AH<;>intro hc<;>try omega)|apply AQ|apply AD)<;>conv=>whnf))
   all_goals (refine ⟨rfl,?_⟩;(conv=>whnf);skip)
   ·exact AU (DN (by omega) (LR (by omega))) (CW _)
   ·exact AU (DN (by omega) (FG (by omega))) (CW _)
  ·(repeat' ((first|apply AD|refine AG (h1 _ _) ?_)<;>conv=>whnf))
   refine ES 1000 N.CO rfl rfl ?_;(repeat' ((first|(apply AH<;>intro hc<;>try omega)|apply AQ|apply AD)<;>conv=>whnf))
   all_goals (refine ⟨rfl,?_⟩;(conv=>whnf);skip)
   ·exact AU (DN (by omega) (LR (by omega))) (CW _)
   ·exact AU (DN (by omega) (FG (by omega))) (CW _)
theorem XD (N:a5 L) (n1 n2 q1 q2:Bool) (a b:List Nat) (ha:AR a) (hb:AR b) (hl:a.length+b.length<=1099511627776):Ev L 88 [.agg (rZ q1 n1 a),.agg (rZ q2 n2 b)] (.agg (eZ (zv n1 a*zv n2 b))):=by
 have h1:=λ q q'=>XH N.toa9 a b q q' ha hb hl
 have z1:=GX (val a*val b);have Cb:(zv n1 a*zv n2 b).natAbs=val a*val b:=by rw[Int.natAbs_mul,D8,D8]
 refine Ev.x N.JO rfl rfl ?_;have e:zv n1 a*zv n2 b=bif n1 == n2 then ((val a*val b:Nat):Int) else -((val a*val b:Nat):Int):=by
  cases n1<;>cases n2<;>simp [EE,ME,Int.mul_neg,Int.neg_mul]
 rw[e]at Cb ⊢;generalize val a*val b=V at *;cases n1<;>cases n2<;>simp only[beq_self_eq_true,cond_true,show (false == true)=false from rfl,show (true == false)=false from rfl,cond_false]
 ·(repeat' ((first|apply AD|refine AG (h1 _ _) ?_)<;>conv=>whnf))
  refine ES 1000 N.CO rfl rfl ?_;(repeat' (apply AD<;>conv=>whnf))
  all_goals (refine ⟨rfl,?_⟩;(conv=>whnf);skip)
  exact AU (DN (by omega) (FG (by omega))) (CW _)
 ·(repeat' ((first|apply AD|refine AG (h1 _ _) ?_)<;>conv=>whnf))
  refine ES 1000 N.CO rfl rfl ?_;(repeat' ((first|(apply AH<;>intro hc<;>try omega)|apply AQ|apply AD)<;>conv=>whnf))
  all_goals (refine ⟨rfl,?_⟩;(conv=>whnf);skip)
  ·exact AU (DN (by omega) (LR (by omega))) (CW _)
  ·exact AU (DN (by omega) (FG (by omega))) (CW _)
 ·(repeat' ((first|apply AD|refine AG (h1 _ _) ?_)<;>conv=>whnf))
  refine ES 1000 N.CO rfl rfl ?_;(repeat' ((first|(apply AH<;>intro hc<;>try omega)|apply AQ|apply AD)<;>conv=>whnf))
  all_goals (refine ⟨rfl,?_⟩;(conv=>whnf);skip)
  ·exact AU (DN (by omega) (LR (by omega))) (CW _)
  ·exact AU (DN (by omega) (FG (by omega))) (CW _)
 ·(repeat' ((first|apply AD|refine AG (h1 _ _) ?_)<;>conv=>whnf))
  refine ES 1000 N.CO rfl rfl ?_;(repeat' (apply AD<;>conv=>whnf))
  all_goals (refine ⟨rfl,?_⟩;(conv=>whnf);skip)
  exact AU (DN (by omega) (FG (by omega))) (CW _)
theorem W1:dg 1=[1]:=by rw[H2 (by omega)];simp [DZ]
theorem vE (N:a5 L) (V:Nat) (q:Bool):Ev L 90 [.sl q ((dg V).map AJ)] (.bool (decide (V=1))):=by
 have hv:=BF V;have hD:=C3 V;have h1:V=1->dg V=[1]:=λ h=>by rw[h,W1]
 generalize dg V=l at *;refine Ev.x N.KV rfl rfl ?_;by_cases hl:l.length=1
 ·obtain ⟨d,rfl⟩:=List.length_eq_one_iff.1 hl
  have e:V=d:=by rw[<-hv];simp [val]
  subst e;have hd:[V][(0:Int).toNat]? = some V:=rfl;(repeat' ((first|(apply AH<;>intro hc<;>try omega)|apply AQ|(refine BH (by assumption) ?_ rfl ?_;omega)|apply AD)<;>conv=>whnf))
  ·exact Q3 (by omega)
  ·exact N3 (by omega)
 ·(repeat' ((first|(apply AH<;>intro hc<;>try omega)|apply AQ|apply AD)<;>conv=>whnf))
  exact N3 (λ h=>by rw[h1 h]at hl;simp at hl)
theorem RV (N:a5 L) (n q1 q2:Bool) (m d:List Nat) (hm:Sm 549755813888 m) (hd:Sm 549755813888 d) (h0:val d≠0):Ev L 94 [.agg (rQ q1 q2 n m d)] (.agg (eQ (qv n m d))):=by
 have uv:=λ q q'=>XG N.toa9 m d q q' hm.1 hd.1 hm.2 hd.2 h0
 have Aw:=D8 n m;have sq:Sm 549755813888 (dg (val m/val d)):=hm.low (Nat.div_le_self _ _);have sr:Sm 549755813888 (dg (val m%val d)):=hd.low (Nat.le_of_lt (Nat.mod_lt _ (by omega)));have hT:=λ q=>eK N n q _ sq
 have hG:=λ q q'=>vL N.toa9 d (dg (val m%val d)) q q' hd.1 sr.1 hd.2 sr.2
 rw[BF,show Nat.gcd (val d) (val m%val d)=Nat.gcd (val d) (zv n m).natAbs by rw[Aw,R2,Nat.gcd_comm]]at hG;have Cs:=gF (zv n m).natAbs h0;have ve:=Nat.gcd_le_left (zv n m).natAbs (show 0<val d by omega);have hz:=GX (val m%val d);obtain ⟨e1,e2,e3⟩:=YO (z:=zv n m) h0;unfold qv;generalize Mn:Nat.gcd (val d) (zv n m).natAbs=g at *;have h1:=λ q=>vE N g q
 refine Ev.x N.KX rfl rfl ?_;by_cases ny:val m%val d=0
 ·(repeat' ((first|(apply AH<;>intro hc<;>try omega)|apply AQ|apply AD|refine AG (uv _ _) ?_|refine AG (hT _) ?_)<;>conv=>whnf))
  refine ES 1000 N.F9 rfl rfl ?_;(repeat' (apply AD<;>conv=>whnf))
  refine ⟨rfl,?_⟩;(conv=>whnf)
  (repeat' (refine HY rfl ?_<;>conv=>whnf))
  have iu:g=val d:=by
   rw[<-Mn,Aw];exact Nat.gcd_eq_left (Nat.dvd_of_mod_eq_zero ny)
  have hv:=BF (val m/val d);refine AU ?_ ?_
  ·show _=AV.agg (rQ _ _ _ _ _)
   rw[e1,e2,e3,Aw,iu,Nat.div_self (by omega),D8,hv,W1];have hs:decide (zv n (dg (val m/val d))<0)=decide (zv n m<0):=by
    cases n
    ·rw[EE,EE];simp;omega
    ·rw[ME,ME,hv]
     congr 1;rw[eq_iff_iff];have h5:=Nat.div_add_mod (val m) (val d);rw[ny,Nat.add_zero]at h5;constructor
     ·intro h6
      have h7:val m/val d≠0:=by omega
      have:val m≠0:=λ h8=>h7 (by rw[h8,Nat.zero_div])
      omega
     ·intro h6
      have h7:val m/val d≠0:=λ h8=>by rw[h8,Nat.mul_zero]at h5;omega
      omega
   rw[hs];rfl
  ·exact EM _
 ·by_cases tj:g=1
  ·have Mu:=λ q=>eK N n q m hm
   have zx:=λ q=>RT N.toa9 d q hd.1 (by have:=hd.2;omega)
   (repeat' ((first|(apply AH<;>intro hc<;>try omega)|apply AQ|apply AD|refine AG (uv _ _) ?_|refine AG (hG _ _) ?_|refine GR (h1 _) (λ hf => ?_) (λ hf => ?_)|refine AG (Mu _) ?_|refine AG (zx _) ?_)<;>conv=>whnf))
   ·refine AU ?_ (TU _ _ _)
    show _=AV.agg (rQ _ _ _ _ _);rw[e1,e2,e3,tj,Nat.div_one,Nat.div_one]
   ·exact absurd tj hf
  ·have sg:Sm 549755813888 (dg g):=hd.low ve
   have wu:=λ q q'=>XG N.toa9 m (dg g) q q' hm.1 sg.1 hm.2 sg.2 (by rw[BF];omega)
   have jx:=λ q q'=>XG N.toa9 d (dg g) q q' hd.1 sg.1 hd.2 sg.2 (by rw[BF];omega)
   rw[BF]at wu jx;(repeat' ((first|(apply AH<;>intro hc<;>try omega)|apply AQ|apply AD|refine AG (uv _ _) ?_|refine AG (hG _ _) ?_|refine GR (h1 _) (λ hf => ?_) (λ hf => ?_)|refine AG (wu _ _) ?_|refine AG (jx _ _) ?_)<;>conv=>whnf))
   ·exact absurd hf tj
   ·refine AU ?_ (TU _ _ _)
    show _=AV.agg (rQ _ _ _ _ _);rw[e1,e2,e3,Aw];have hs:n=decide (zv n m<0):=by
     have:val m≠0:=λ h=>ny (by rw[h,Nat.zero_mod])
     cases n
     ·exact FG (by rw[EE];omega)
     ·exact LR (by rw[ME];omega)
    rw[<-hs]
theorem eU (N:a5 L) (m:List Nat):Ev L 91 [.sl false (m.map AJ)] (.agg [.bool false,.sl false (m.map AJ)]):=by
 refine Ev.x N.KW rfl rfl ?_;(repeat' (apply AD<;>conv=>whnf))
 exact AU rfl (qW _ _)
def oK (n:Bool) (m d:List Nat) (n':Bool) (m' d':List Nat) (w:Bool) (k:Nat):Prop:=Sm k m'/\Sm k d'/\val d'≠0/\(w=true->val d'=1)/\qv n m d=mkRat (zv n' m') (val d')
theorem P6 (N:a5 L) (n:Bool) (m d:List Nat) (k:Nat) (hk:1<=k/\k<=549755813888) (hm:Sm k m) (hd:Sm k d) : ∃ n' m' d' w,Ev L 89 [.agg (rQ false false n m d)] (.agg [.bool n',.sl false (m'.map AJ),.sl false (d'.map AJ),.bool w])/\oK n m d n' m' d' w k:=by
 have j6:=λ q q'=>OR N.toa9 d [] q q' hd.1 P2 (by have:=hd.2;omega) (by simp)
 rw[HL]at j6;by_cases h1:d=[1]
 ·subst h1
  refine ⟨n,m,[1],true,?_,hm,hd,by decide,λ_=>rfl,rfl⟩;refine Ev.x N.HA rfl rfl ?_;have hd:[1][(0:Int).toNat]? = some 1:=rfl;have pc:([1]:List Nat).length=1:=rfl;(repeat' ((first|(apply AH<;>intro hc<;>try omega)|apply AQ|(refine BH (by assumption) ?_ rfl ?_;omega)|apply AD)<;>conv=>whnf))
  exact AU rfl (RI _ _ _ _)
 have k7 : ∀ x,d[(0:Int).toNat]? = some x->(d.length:Int)=1->(x:Int)≠1:=λ x hx hl h=>by
  obtain ⟨y,rfl⟩:=List.length_eq_one_iff.1 (show d.length=1 by omega);simp at hx;apply h1;congr 1;omega
 by_cases h0:val d=0
 ·refine ⟨false,[],[1],true,?_,kO _,ZN hk.1 (by omega),by decide,λ_=>rfl,by unfold qv;rw[h0,Rat.mkRat_zero,mG,Rat.zero_mkRat]⟩
  have hn:CM (val d) (0:Nat)=0:=(OH (by omega)).symm;rw[hn]at j6;refine Ev.x N.HA rfl rfl ?_;have hD:=hd.1;(repeat' ((first|(apply AH<;>intro hc<;>try omega)|apply AQ|(refine NA (by assumption) ?_ (λ e he hb => ?_);omega)|refine HY rfl ?_|apply AD|refine AG (j6 _ _) ?_)<;>conv=>whnf))
  all_goals first
   | exact AU rfl (RI _ _ _ _)
   | exact AU rfl (RI false true [] [1])
   | exact absurd (by assumption) (k7 _ he (by assumption))
 ·refine ⟨n,m,d,false,?_,hm,hd,h0,(λ h=>by cases h),rfl⟩
  have hn:CM (val d) (0:Nat)=1:=(L1 (by omega)).symm;rw[hn]at j6;have hD:=hd.1;refine Ev.x N.HA rfl rfl ?_;(repeat' ((first|(apply AH<;>intro hc<;>try omega)|apply AQ|(refine NA (by assumption) ?_ (λ e he hb => ?_);omega)|apply AD|refine AG (j6 _ _) ?_)<;>conv=>whnf))
  all_goals first
   | exact AU rfl (RI _ _ _ _)
   | exact AU rfl (RI false true [] [1])
   | exact absurd (by assumption) (k7 _ he (by assumption))
theorem wM (N:a5 L) (n q1 q2:Bool) (m d:List Nat) (hm:Sm 549755813888 m) (hd:Sm 549755813888 d):Ev L 95 [.agg (rQ q1 q2 n m d)] (.agg (eQ (qv n m d))):=by
 obtain ⟨n',m',d',w,hr,s1,s2,s3,s4,s5⟩:=P6 N n m d 549755813888 (by omega) hm hd;have hl:=λ q1 q2=>RV N n' q1 q2 m' d' s1 s2 s3
 rw[s5];unfold qv at hl;refine Ev.x N.KU rfl rfl ?_;(repeat' ((first|apply HV|apply AD|refine AG (hr) ?_|refine AG (hl _ _) ?_)<;>conv=>whnf))
 exact AU rfl (EM _)
theorem fJ (N:a5 L) (n q1 q2:Bool) (m d:List Nat) (hm:Sm 549755813888 m) (hd:Sm 549755813888 d):Ev L 97 [.agg (rQ q1 q2 n m d)] (.int .i64 (v5 (qv n m d).num)):=by
 obtain ⟨n',m',d',w,hr,s1,s2,s3,s4,s5⟩:=P6 N n m d 549755813888 (by omega) hm hd;have hl:=λ q=>vB N n' q m' s1
 rw[s5,iW s3];refine Ev.x N.KT rfl rfl ?_;(repeat' ((first|apply HV|apply AD|refine AG (hr) ?_|refine AG (hl _) ?_)<;>conv=>whnf))
 exact B9 rfl
theorem WE (z:Int):AV.agg [.bool (decide (z<0)),.sl false ((dg z.natAbs).map AJ),.sl false [[.int .u32 1]]] = .agg (eQ (z:Rat)):=by
 show _=AV.agg (rQ _ _ _ _ _);rw[Rat.num_intCast,Rat.den_intCast,W1];rfl
theorem OU (N:a5 L) (z:Int) (hz : -9223372036854775808<=z/\z<=9223372036854775807):Ev L 96 [.int .i64 z] (.agg (eQ (z:Rat))):=by
 have h1:=XF N z hz;refine Ev.x N.KS rfl rfl ?_;(repeat' ((first|apply AD|refine AG (h1) ?_)<;>conv=>whnf))
 refine ES 1000 N.F9 rfl rfl ?_;(repeat' (apply AD<;>conv=>whnf))
 refine ⟨rfl,?_⟩;(conv=>whnf)
 (repeat' (refine HY rfl ?_<;>conv=>whnf))
 exact AU (WE z) (EM _)
theorem ZO {k l:Nat} {n1 n2:Bool} {a b:List Nat} (ha:Sm k a) (hb:Sm l b):Sm (k+l) (dg (zv n1 a*zv n2 b).natAbs):=ha.mul hb (by rw[Int.natAbs_mul,D8,D8])
theorem kQ {k:Nat} {x y:Int} (ha:Sm k (dg x.natAbs)) (hb:Sm k (dg y.natAbs)):Sm (k+1) (dg (x+y).natAbs):=ha.add hb (by rw[BF,BF];omega)
theorem wL (N:a5 L) (k:Nat) (hk:1<=k/\k<=68719476736) (n1 n2 q1 q2 q3 q4:Bool) (m1 d1 m2 d2:List Nat) (iw:Sm k m1) (kx:Sm k d1) (ep:Sm k m2) (ox:Sm k d2) :
  Ev L 98 [.agg (rQ q1 q2 n1 m1 d1),.agg (rQ q3 q4 n2 m2 d2)] (.agg (eQ (qv n1 m1 d1+qv n2 m2 d2))):=by
 obtain ⟨a1,a2,a3,w1,cn,s1,s2,s3,s4,s5⟩:=P6 N n1 m1 d1 k (by omega) iw kx;obtain ⟨b1,b2,b3,w2,cb,t1,t2,t3,t4,t5⟩:=P6 N n2 m2 d2 k (by omega) ep ox;rw[s5,t5];have hA:=λ q q'=>eJ N a1 b1 q q' a2 b2 (s1.le (by omega)) (t1.le (by omega))
 have Ek:Sm (k+1) (dg (zv a1 a2+zv b1 b2).natAbs):=kQ (by rw[D8];exact s1.od) (by rw[D8];exact t1.od);by_cases hw:w1=true/\w2=true
 ·obtain ⟨rfl,rfl⟩:=hw
  rw[s4 rfl,t4 rfl,iT (by omega),iV];generalize zv a1 a2+zv b1 b2=z at *;refine Ev.x N.G9 rfl rfl ?_;(repeat' ((first|apply HV|apply AD|refine AG (cn) ?_|refine AG (cb) ?_|refine AG (hA _ _) ?_)<;>conv=>whnf))
  refine ES 1000 N.F9 rfl rfl ?_;(repeat' (apply AD<;>conv=>whnf))
  refine ⟨rfl,?_⟩;(conv=>whnf)
  (repeat' (refine HY rfl ?_<;>conv=>whnf))
  exact AU (WE z) (EM _)
 ·have j6:=λ q q'=>OR N.toa9 a3 b3 q q' s2.1 t2.1 (by have:=s2.2;omega) (by have:=t2.2;omega)
  by_cases Nl:val a3=val b3
  ·have hn:CM (val a3) (val b3)=0:=(OH (by omega)).symm
   rw[hn]at j6;rw[<-Nl,iT s3];generalize zv a1 a2+zv b1 b2=z at *;have hl:=λ q1 q2=>RV N (decide (z<0)) q1 q2 (dg z.natAbs) a3 (Ek.le (by omega)) (s2.le (by omega)) s3
   unfold qv at hl;rw[FK]at hl;refine Ev.x N.G9 rfl rfl ?_;cases w1<;>cases w2
   ·(repeat' ((first|(apply AH<;>intro hc<;>try omega)|apply HV|apply AD|refine AG (cn) ?_|refine AG (cb) ?_|refine AG (hA _ _) ?_|refine AG (j6 _ _) ?_|refine AG (hl _ _) ?_)<;>conv=>whnf))
    exact AU rfl (EM _)
   ·(repeat' ((first|(apply AH<;>intro hc<;>try omega)|apply HV|apply AD|refine AG (cn) ?_|refine AG (cb) ?_|refine AG (hA _ _) ?_|refine AG (j6 _ _) ?_|refine AG (hl _ _) ?_)<;>conv=>whnf))
    exact AU rfl (EM _)
   ·(repeat' ((first|(apply AH<;>intro hc<;>try omega)|apply HV|apply AD|refine AG (cn) ?_|refine AG (cb) ?_|refine AG (hA _ _) ?_|refine AG (j6 _ _) ?_|refine AG (hl _ _) ?_)<;>conv=>whnf))
    exact AU rfl (EM _)
   ·exact absurd ⟨rfl,rfl⟩ hw
  ·have hn:CM (val a3) (val b3)≠0:=by unfold CM;split<;>(try split)<;>omega
   generalize CM (val a3) (val b3)=cm at *;have ef:=λ q q'=>XD N a1 false q q' a2 b3 s1.1 t2.1 (by have:=s1.2;have:=t2.2;omega)
   have me:=λ q q'=>XD N b1 false q q' b2 a3 t1.1 s2.1 (by have:=t1.2;have:=s2.2;omega)
   have jy:=λ q q'=>XH N.toa9 a3 b3 q q' s2.1 t2.1 (by have:=s2.2;have:=t2.2;omega)
   have Di:=eU N a3;have yg:=eU N b3;have g1:Sm (k+k) (dg (zv a1 a2*zv false b3).natAbs):=ZO s1 t2;have g2:Sm (k+k) (dg (zv b1 b2*zv false a3).natAbs):=ZO t1 s2;have g3:=kQ g1 g2;have g4:Sm (k+k) (dg (val a3*val b3)):=s2.mul t2 rfl;rw[UQ s3 t3,<-EE b3,<-EE a3];have gb:val a3*val b3≠0:=Nat.mul_ne_zero s3 t3;generalize zv a1 a2*zv false b3=x at *;generalize zv b1 b2*zv false a3=y at *;generalize val a3*val b3=D at *;have qh:=λ q q'=>eJ N (decide (x<0)) (decide (y<0)) q q' (dg x.natAbs) (dg y.natAbs) (g1.le (by omega)) (g2.le (by omega))
   rw[FK,FK]at qh;generalize x+y=z at *;have hl:=λ q1 q2=>RV N (decide (z<0)) q1 q2 (dg z.natAbs) (dg D) (g3.le (by omega)) (g4.le (by omega)) (by rw[BF];exact gb)
   unfold qv at hl;rw[FK,BF]at hl;refine Ev.x N.G9 rfl rfl ?_;cases w1<;>cases w2
   ·(repeat' ((first|(apply AH<;>intro hc<;>try omega)|apply HV|apply V2|apply AD|refine AG (cn) ?_|refine AG (cb) ?_|refine AG (j6 _ _) ?_|refine AG (Di) ?_|refine AG (yg) ?_|refine AG (ef _ _) ?_|refine AG (me _ _) ?_|refine AG (qh _ _) ?_|refine AG (jy _ _) ?_|refine AG (hl _ _) ?_)<;>conv=>whnf))
    exact AU rfl (EM _)
   ·(repeat' ((first|(apply AH<;>intro hc<;>try omega)|apply HV|apply V2|apply AD|refine AG (cn) ?_|refine AG (cb) ?_|refine AG (j6 _ _) ?_|refine AG (Di) ?_|refine AG (yg) ?_|refine AG (ef _ _) ?_|refine AG (me _ _) ?_|refine AG (qh _ _) ?_|refine AG (jy _ _) ?_|refine AG (hl _ _) ?_)<;>conv=>whnf))
    exact AU rfl (EM _)
   ·(repeat' ((first|(apply AH<;>intro hc<;>try omega)|apply HV|apply V2|apply AD|refine AG (cn) ?_|refine AG (cb) ?_|refine AG (j6 _ _) ?_|refine AG (Di) ?_|refine AG (yg) ?_|refine AG (ef _ _) ?_|refine AG (me _ _) ?_|refine AG (qh _ _) ?_|refine AG (jy _ _) ?_|refine AG (hl _ _) ?_)<;>conv=>whnf))
    exact AU rfl (EM _)
   ·exact absurd ⟨rfl,rfl⟩ hw
theorem UG (N:a5 L) (k:Nat) (hk:1<=k/\k<=68719476736) (n1 n2 q1 q2 q3 q4:Bool) (m1 d1 m2 d2:List Nat) (iw:Sm k m1) (kx:Sm k d1) (ep:Sm k m2) (ox:Sm k d2) :
  Ev L 99 [.agg (rQ q1 q2 n1 m1 d1),.agg (rQ q3 q4 n2 m2 d2)] (.agg (eQ (qv n1 m1 d1*qv n2 m2 d2))):=by
 obtain ⟨a1,a2,a3,w1,cn,s1,s2,s3,s4,s5⟩:=P6 N n1 m1 d1 k (by omega) iw kx;obtain ⟨b1,b2,b3,w2,cb,t1,t2,t3,t4,t5⟩:=P6 N n2 m2 d2 k (by omega) ep ox;rw[s5,t5,iU];have ef:=λ q q'=>XD N a1 b1 q q' a2 b2 s1.1 t1.1 (by have:=s1.2;have:=t1.2;omega)
 have jy:=λ q q'=>XH N.toa9 a3 b3 q q' s2.1 t2.1 (by have:=s2.2;have:=t2.2;omega)
 have g1:Sm (k+k) (dg (zv a1 a2*zv b1 b2).natAbs):=ZO s1 t1;have g4:Sm (k+k) (dg (val a3*val b3)):=s2.mul t2 rfl;have gb:val a3*val b3≠0:=Nat.mul_ne_zero s3 t3;generalize zv a1 a2*zv b1 b2=z at *;by_cases hw:w1=true/\w2=true
 ·obtain ⟨rfl,rfl⟩:=hw
  rw[s4 rfl,t4 rfl,Nat.one_mul,iV];refine Ev.x N.H8 rfl rfl ?_;(repeat' ((first|apply HV|apply AD|refine AG (cn) ?_|refine AG (cb) ?_|refine AG (ef _ _) ?_)<;>conv=>whnf))
  refine ES 1000 N.F9 rfl rfl ?_;(repeat' (apply AD<;>conv=>whnf))
  refine ⟨rfl,?_⟩;(conv=>whnf)
  (repeat' (refine HY rfl ?_<;>conv=>whnf))
  exact AU (WE z) (EM _)
 ·generalize val a3*val b3=D at *
  have hl:=λ q1 q2=>RV N (decide (z<0)) q1 q2 (dg z.natAbs) (dg D) (g1.le (by omega)) (g4.le (by omega)) (by rw[BF];exact gb)
  unfold qv at hl;rw[FK,BF]at hl;refine Ev.x N.H8 rfl rfl ?_;cases w1<;>cases w2
  ·(repeat' ((first|apply HV|apply AD|refine AG (cn) ?_|refine AG (cb) ?_|refine AG (ef _ _) ?_|refine AG (jy _ _) ?_|refine AG (hl _ _) ?_)<;>conv=>whnf))
   exact AU rfl (EM _)
  ·(repeat' ((first|apply HV|apply AD|refine AG (cn) ?_|refine AG (cb) ?_|refine AG (ef _ _) ?_|refine AG (jy _ _) ?_|refine AG (hl _ _) ?_)<;>conv=>whnf))
   exact AU rfl (EM _)
  ·(repeat' ((first|apply HV|apply AD|refine AG (cn) ?_|refine AG (cb) ?_|refine AG (ef _ _) ?_|refine AG (jy _ _) ?_|refine AG (hl _ _) ?_)<;>conv=>whnf))
   exact AU rfl (EM _)
  ·exact absurd ⟨rfl,rfl⟩ hw
def EN (l:List Rat):Nat->Nat
 | 0=>0
 | n+1=>if l.getD n 0=0 then EN l n else n+1
theorem WQ (l:List Rat) : ∀ n,EN l n<=n
 | 0=>Nat.le_refl _
 | n+1=>by rw[EN];split;exact Nat.le_succ_of_le (WQ l n);exact Nat.le_refl _
def FI (l:List Rat):List Rat:=l.take (EN l l.length)
theorem Me (l:List Rat):(FI l).length=EN l l.length:=by rw[FI,List.length_take];exact Nat.min_eq_left (WQ _ _)
theorem Bs.trim {k:Nat} {l:List Rat} (h:Bs k l):Bs k (FI l):=λ x hx=>h x (List.mem_of_mem_take hx)
theorem Z3 {l:List Rat} {i:Nat} {x:Rat} (h:l[i]? = some x):l.take (i+1)=l.take i++[x]:=by
 rw[List.take_add_one,h];rfl
theorem Bt.sm {k:Nat} {x:Rat} (h:Bt k x) (hk:k<2199023255552):Sm 68719476736 (dg x.num.natAbs)/\Sm 68719476736 (dg x.den):=h.Fh (by omega)
theorem P5 (N:a5 L) {x y:Rat} {k l:Nat} (hx:Bt k x) (hy:Bt l y) (hk:k<2199023255552) (hl:l<2199023255552):Ev L 98 [.agg (eQ x),.agg (eQ y)] (.agg (eQ (x+y))):=by
 have:=wL N 68719476736 (by omega) (decide (x.num<0)) (decide (y.num<0)) false false false false _ _ _ _ (hx.sm hk).1 (hx.sm hk).2 (hy.sm hl).1 (hy.sm hl).2
 rw[G8,G8]at this;exact this
theorem vG (N:a5 L) {x y:Rat} {k l:Nat} (hx:Bt k x) (hy:Bt l y) (hk:k<2199023255552) (hl:l<2199023255552):Ev L 99 [.agg (eQ x),.agg (eQ y)] (.agg (eQ (x*y))):=by
 have:=UG N 68719476736 (by omega) (decide (x.num<0)) (decide (y.num<0)) false false false false _ _ _ _ (hx.sm hk).1 (hx.sm hk).2 (hy.sm hl).1 (hy.sm hl).2
 rw[G8,G8]at this;exact this
theorem XR (N:a5 L) {x:Rat} {k:Nat} (hx:Bt k x) (hk:k<2199023255552):Ev L 95 [.agg (eQ x)] (.agg (eQ x)):=by
 have:=wM N (decide (x.num<0)) false false _ _ ((hx.sm hk).1.le (by omega)) ((hx.sm hk).2.le (by omega))
 rw[G8]at this;exact this
theorem P7 (N:a5 L) {x:Rat} {k:Nat} (hx:Bt k x) (hk:k<2199023255552):Ev L 97 [.agg (eQ x)] (.int .i64 (v5 x.num)):=by
 have:=fJ N (decide (x.num<0)) false false _ _ ((hx.sm hk).1.le (by omega)) ((hx.sm hk).2.le (by omega))
 rw[G8]at this;exact this
theorem NV {x:Rat}:v5 x.num=0↔x=0:=by
 rw[<-Rat.num_eq_zero];unfold v5;split
 ·omega
 ·split<;>omega
theorem wO (N:e5 L) (n:Nat) (hn:n<=65536):Ev L 131 [.int .i64 (n:Int)] (.sl false ((List.replicate n (0:Rat)).map eQ)):=by
 have hO:=OU N.toa5 0 (by omega);refine Ev.x N.G4 rfl rfl ?_;(repeat' (apply AD<;>conv=>whnf))
 refine DQ (enc:=eO) none n rfl rfl (by omega) ?_;(conv=>whnf)
 skip
 refine GF (λ i=>n-i) (λ(i:Nat)=>i<=n) (λ i=>[(9,.int .i64 i)]) (λ i=>[(131006,131006,.rw 3 ((EH (List.replicate i 0) n).map eO))]) [] [] 0 (by first|exact (by (conv=>whnf);exact ⟨rfl,rfl,rfl⟩)|(rw[<-L5];exact (by (conv=>whnf);exact ⟨rfl,rfl,rfl⟩))) (by omega) ?_;intro i p1 ih;by_cases hi:i<n
 ·have hl:=JC (l:=List.replicate i (0:Rat)) (m:=n) (by simp;omega)
  have hs:=L6 (l:=List.replicate i (0:Rat)) (m:=n) (x:=0) (by simp;omega);rw[List.length_replicate]at hs;(repeat' ((first|(apply AH<;>intro hc<;>try omega)|(apply BA;omega)|apply AD|refine AG (hO) ?_)<;>conv=>whnf))
  refine GI (enc:=eO) (some 0) rfl (λ e=>by cases e<;>rfl) (by omega) ?_;(conv=>whnf)
  (repeat' ((first|(apply A2;omega)|fail)<;>conv=>whnf))
  rw[hs];rw[show List.replicate i (0:Rat)++[0]=List.replicate (i+1) 0 by rw[List.replicate_succ']];exact B2 [] (ih (i+1) (by omega) (by omega))
 ·obtain rfl:i=n:=by omega
  clear ih;rw[L4 (by simp)];(repeat' ((first|(apply AH<;>intro hc<;>try omega)|(refine C8 (λ_=>rfl) rfl ?_ ?_;(first|rfl|simp))|apply AD)<;>conv=>whnf))
  exact AU rfl (by simp only[AZ,true_and];exact I4 _)
theorem zY {x y:Int} (h:y≠0):mkRat (y.sign*x) y.natAbs=Rat.divInt x y:=by
 obtain ⟨d,hd|hd⟩:=Int.eq_nat_or_neg y
 ·subst hd
  rw[Int.sign_eq_one_of_pos (by omega),Int.one_mul,Int.natAbs_natCast,Rat.divInt_ofNat]
 ·subst hd
  rw[Int.sign_eq_neg_one_of_neg (by omega),Int.natAbs_neg,Int.natAbs_natCast,Rat.divInt_neg',Rat.divInt_ofNat,Int.neg_one_mul]
theorem uP (N:cg L) (x y:Int) (hx : -9223372036854775808<=x/\x<=9223372036854775807) (hy : -9223372036854775808<=y/\y<=9223372036854775807) (h0:y≠0):Ev L 151 [.int .i64 x,.int .i64 y] (.agg (eQ (Rat.divInt x y))):=by
 have h1:=XF N.toa5 x hx;have h2:=XF N.toa5 y hy;have g1:Sm 2 (dg x.natAbs):=Sm.dg (by omega);have g2:Sm 2 (dg y.natAbs):=Sm.dg (by omega);have hl:=λ q1 q2=>RV N.toa5 (decide (x<0) != decide (y<0)) q1 q2 (dg x.natAbs) (dg y.natAbs) (g1.le (by omega)) (g2.le (by omega)) (by rw[BF];omega)
 unfold qv at hl;rw[Le h0,BF,zY h0]at hl;refine Ev.x N.KR rfl rfl ?_;(repeat' ((first|(apply AH<;>intro hc<;>try omega)|apply AD|refine AG (h1) ?_|refine AG (h2) ?_)<;>conv=>whnf))
 refine ES 1000 N.KY rfl rfl ?_;(repeat' (apply AD<;>conv=>whnf))
 generalize decide (x<0)=p at *;generalize decide (y<0)=r at *;cases p<;>cases r;all_goals
  (conv=>whnf)
  refine ⟨rfl,?_⟩;(conv=>whnf)
  (repeat' (refine AG (hl _ _) ?_<;>conv=>whnf))
  exact AU rfl (EM _)
end Go.c8

namespace Go.c8
open F
attribute [local irreducible] AA AF AX AB CQ AY BB A9 BS BR CX D9 BT A1 BP CK AC A5 AL pw C7 CE DM DF DP DU DY BQ DE
set_option maxHeartbeats 4000000
variable {L:Lib}
structure A3 where
 n:Bool
 m:List Nat
 d:List Nat
abbrev eW (w:A3):List AV:=rQ false false w.n w.m w.d
def A3.v (w:A3):Rat:=qv w.n w.m w.d
def A3.Sz (k:Nat) (w:A3):Prop:=Sm k w.m/\Sm k w.d
def ZI (x:Rat):A3:=⟨decide (x.num<0),dg x.num.natAbs,dg x.den⟩
theorem kI (x:Rat):(ZI x).v=x:=G8 x
theorem kP {k:Nat} {l:List Nat} (h:Sm k l):val l<=2^(32*k):=by
 have:=h.val
 rw[show 4294967296=2^32 from rfl,<-Nat.pow_mul]at this;omega
theorem A3.bt {w:A3} {k:Nat} (h:w.Sz k):Bt (32*k) w.v:=by
 unfold A3.v qv;refine Bt.mk ?_ (kP h.2);rw[D8];exact kP h.1
section program
theorem fK (N:a5 L) {w:A3} {k:Nat} (h:w.Sz k) (hk:k<=68719476736):Ev L 97 [.agg (eW w)] (.int .i64 (v5 w.v.num)):=fJ N w.n false false w.m w.d (h.1.le (by omega)) (h.2.le (by omega))
theorem eM (N:a5 L) {w:A3} {y:Rat} {k l:Nat} (h:w.Sz k) (hy:Bt l y) (hk:k<=68719476736) (hl:l<2199023255552):Ev L 99 [.agg (eW w),.agg (eQ y)] (.agg (eQ (w.v*y))):=by
 have:=UG N 68719476736 (by omega) w.n (decide (y.num<0)) false false false false w.m w.d _ _ (h.1.le hk) (h.2.le hk) (hy.gn hl).1 (hy.gn hl).2
 rw[G8]at this;exact this
theorem vH (N:a5 L) {w:A3} {x:Rat} {k l:Nat} (hx:Bt l x) (h:w.Sz k) (hl:l<2199023255552) (hk:k<=68719476736):Ev L 99 [.agg (eQ x),.agg (eW w)] (.agg (eQ (x*w.v))):=by
 have:=UG N 68719476736 (by omega) (decide (x.num<0)) w.n false false false false _ _ w.m w.d (hx.gn hl).1 (hx.gn hl).2 (h.1.le hk) (h.2.le hk)
 rw[G8]at this;exact this
theorem vI (N:a5 L) {w u:A3} {k l:Nat} (h:w.Sz k) (g:u.Sz l) (hk:k<=68719476736) (hl:l<=68719476736):Ev L 99 [.agg (eW w),.agg (eW u)] (.agg (eQ (w.v*u.v))) :=
 UG N 68719476736 (by omega) w.n u.n false false false false w.m w.d u.m u.d (h.1.le hk) (h.2.le hk) (g.1.le hl) (g.2.le hl)
end program
section reference
theorem eN (N:a8 L) {w:A3} {y:Rat} {k l:Nat} (h:w.Sz k) (hy:Bt l y) (hk:k<=68719476736) (hl:l<2199023255552):Ev L 128 [.agg (eW w),.agg (eQ y)] (.agg (eQ (w.v*y))):=by
 have:=fI (q1:=false) (q3:=false) N 68719476736 (by omega) w.n (decide (y.num<0)) false false w.m w.d _ _ (h.1.le hk) (h.2.le hk) (hy.gn hl).1 (hy.gn hl).2
 rw[G8]at this;exact this
theorem vJ (N:a8 L) {w u:A3} {k l:Nat} (h:w.Sz k) (g:u.Sz l) (hk:k<=68719476736) (hl:l<=68719476736):Ev L 128 [.agg (eW w),.agg (eW u)] (.agg (eQ (w.v*u.v))) :=
 fI N 68719476736 (by omega) w.n u.n false false w.m w.d u.m u.d (h.1.le hk) (h.2.le hk) (g.1.le hl) (g.2.le hl)
end reference
end Go.c8

namespace Go.c8
open F
attribute [local irreducible] AA AF AX AB CQ AY BB A9 BS BR CX D9 BT A1 BP CK AC A5 AL pw C7 CE DM DF DP DU DY BQ DE
variable {L:Lib}
set_option maxHeartbeats 8000000
def H0 (p r:List Rat):List Rat:=(List.range p.length).map λ i=>p.getD i 0+r.getD i 0
theorem pV (p r:List Rat):(H0 p r).length=p.length:=by simp [H0]
theorem bI {p r:List Rat} {i:Nat} (h:i<p.length):(H0 p r)[i]? = some (p.getD i 0+r.getD i 0):=by
 simp only[H0,List.getElem?_map,List.getElem?_range h,Option.map_some]
theorem OX {l:List Rat} {i:Nat} {x:Rat} (h:l[i]? = some x):l.getD i 0=x:=by rw[List.getD_eq_getElem?_getD,h];rfl
theorem gD {l:List Rat} {i:Nat} (h:l.length<=i):l.getD i 0=0:=by rw[List.getD_eq_getElem?_getD,List.getElem?_eq_none h];rfl
theorem vY (N:ak L) (q:Bool) (l:List Rat) (k:Nat) (hl:Bs k l) (hk:k<2199023255552) (hn:l.length<=1000000):Ev L 170 [.sl q (l.map eQ)] (.sl false ((FI l).map eQ)):=by
 refine Ev.x N.KO rfl rfl ?_;(repeat' (apply AD<;>conv=>whnf))
 refine FA 1000 N.G6 rfl rfl ?_;(repeat' ((first|apply AQ|apply AD)<;>conv=>whnf))
 refine DL (λ n=>n) (λ(n:Nat)=>n<=l.length/\EN l l.length=EN l n) (λ n=>[(3,.int .i64 n)]) (λ_=>[]) l.length ⟨Nat.le_refl _,rfl⟩ ?_;intro n ⟨p1,p2⟩ ih;have done : ∀ {n:Nat},EN l l.length=n->FI l=l.take n:=λ h=>by rw[FI,h]
 by_cases hz:n=0\/(∃ m x,n=m+1/\l[m]? = some x/\x≠0)
 ·have ga:EN l l.length=n:=by
   rw[p2];rcases hz with rfl|⟨m,x,rfl,h1,h2⟩
   ·rfl
   ·rw[EN,if_neg]
    rw[List.getD_eq_getElem?_getD,h1];exact h2
  have vm:=done ga;have eu:(l.take n).length=n:=by rw[List.length_take];omega
  clear ih ga p2 done;rcases hz with h0|⟨m,x,Gl,h1,h2⟩
  case' inl=>(repeat' ((first|(apply AH<;>intro hc<;>try omega)|apply AD)<;>conv=>whnf))
  case' inr =>
   have mc:l[((n:Int)-1).toNat]? = some x:=by rw[show ((n:Int)-1).toNat=m by omega];exact h1
   have jz:=P7 N.toa5 (hl.at h1) (by omega);have hs:=NV (x:=x);generalize v5 x.num=s at *;have hS : ∀ v,l[((n:Int)-1).toNat]? = some v->Ev L 97 [.agg (eQ v)] (.int .i64 s):=λ v h=>by
    obtain rfl:=Option.some.inj (mc.symm.trans h);exact jz
   have pg:s≠0:=λ h=>h2 (hs.1 h)
   (repeat' ((first|(apply AH<;>intro hc<;>try omega)|(apply BN;omega)|(refine BH (by assumption) ?_ rfl ?_;omega)|apply AD|refine AG (jz) ?_)<;>conv=>whnf))
  all_goals
   refine N8 (enc:=eQ) (λ_=>rfl) p1 ?_;(conv=>whnf)
   skip
   refine ⟨rfl,_,rfl,?_⟩;(conv=>whnf)
   (repeat' (apply AQ<;>conv=>whnf))
   refine DQ (enc:=eO) none n rfl (by rw[eu]) (by omega) ?_;(conv=>whnf)
   skip
   refine GF (λ i=>n-i) (λ(i:Nat)=>i<=n) (λ i=>[(11,.int .i64 i)]) (λ i=>[(170008,170008,.rw 3 ((EH (l.take i) n).map eO))]) [] [] 0 (by first|exact (by (conv=>whnf);exact ⟨rfl,rfl,rfl⟩)|(rw[List.take_zero,<-L5];exact (by (conv=>whnf);exact ⟨rfl,rfl,rfl⟩))) (by omega) ?_;intro i g1 ih;by_cases hi:i<n
   ·all_goals try omega
    all_goals
     obtain ⟨y,hy⟩ : ∃ y,l[i]? = some y:=⟨_,zE (by omega)⟩;have rk:l[(i:Int).toNat]? = some y:=hy;have jr:(l.take i).length=i:=by rw[List.length_take];omega
     have Am:=JC (l:=l.take i) (m:=n) (by omega);have g8:=L6 (l:=l.take i) (m:=n) (x:=y) (by omega);rw[jr,<-Z3 hy]at g8;have Fq:=XR N.toa5 (hl.at hy) (by omega);have hT : ∀ v,l[(i:Int).toNat]? = some v->Ev L 95 [.agg (eQ v)] (.agg (eQ y)):=λ v h=>by
      obtain rfl:=Option.some.inj (rk.symm.trans h);exact Fq
     (repeat' ((first|(apply AH<;>intro hc<;>try omega)|(apply BA;omega)|(refine BH (by assumption) ?_ rfl ?_;omega)|apply AD|refine AG (Fq) ?_)<;>conv=>whnf))
     refine GI (enc:=eO) (some y) rfl (λ e=>by cases e<;>rfl) (by omega) ?_;(conv=>whnf)
     (repeat' ((first|(apply A2;omega)|fail)<;>conv=>whnf))
     rw[g8];exact B2 [] (ih (i+1) (by omega) (by omega))
   ·obtain rfl:i=n:=by omega
    clear ih;rw[L4 eu,<-vm]at *;rw[<-vm]at eu;(repeat' ((first|(apply AH<;>intro hc<;>try omega)|apply AD)<;>conv=>whnf))
    refine C8 (enc:=eQ) (λ_=>rfl) rfl eu.symm ?_;(conv=>whnf)
    exact AU rfl (by simp only[AZ,true_and];exact I4 _)
 ·obtain ⟨m,rfl⟩ : ∃ m,n=m+1:=⟨n-1,by omega⟩
  obtain ⟨x,hx⟩ : ∃ x,l[m]? = some x:=⟨_,zE (by omega)⟩;have fj:x=0:=by
   rcases Classical.em (x=0) with h|h
   ·exact h
   ·exact (hz (Or.inr ⟨m,x,rfl,hx,h⟩)).elim
  have js:l[((m+1:Nat)-1:Int).toNat]? = some x:=by rw[show ((m+1:Nat)-1:Int).toNat=m by omega];exact hx
  have jz:=P7 N.toa5 (hl.at hx) (by omega);have hs:=NV (x:=x);generalize v5 x.num=s at *;have hS : ∀ v,l[((m+1:Nat)-1:Int).toNat]? = some v->Ev L 97 [.agg (eQ v)] (.int .i64 s):=λ v h=>by
   obtain rfl:=Option.some.inj (js.symm.trans h);exact jz
  have pg:=hs.2 fj;(repeat' ((first|(apply AH<;>intro hc<;>try omega)|(apply BN;omega)|(refine BH (by assumption) ?_ rfl ?_;omega)|apply AD|refine AG (jz) ?_)<;>conv=>whnf))
  rw[show ((m+1:Nat):Int)-1=(m:Int) by omega];exact B2 [] (ih m (by omega) ⟨by omega,by rw[p2,EN,if_pos (by rw[List.getD_eq_getElem?_getD,hx];exact fj)]⟩)
theorem vW (N:u4 L) (q1 q2:Bool) (p r:List Rat) (k j:Nat) (hp:Bs k p) (hr:Bs j r) (hk:k+j+1<2199023255552) (hn:p.length<=1000000) (hm:r.length<=p.length):Ev L 191 [.sl q1 (p.map eQ),.sl q2 (r.map eQ)] (.sl false ((FI (H0 p r)).map eQ)):=by
 refine Ev.x N.KM rfl rfl ?_;(repeat' ((first|(apply AH<;>intro hc<;>try omega)|apply AQ|apply AD)<;>conv=>whnf))
 refine DQ (enc:=eO) none p.length rfl rfl (by omega) ?_;(conv=>whnf)
 skip
 have lg:=pV p r;refine GF (λ i=>p.length-i) (λ(i:Nat)=>i<=p.length) (λ i=>[(19,.int .i64 i)]) (λ i=>[(16,16,.rw 3 ((EH ((H0 p r).take i) p.length).map eO))]) [] [] 0 (by first|exact (by (conv=>whnf);exact ⟨rfl,rfl,rfl⟩)|(rw[List.take_zero,<-L5];exact (by (conv=>whnf);exact ⟨rfl,rfl,rfl⟩))) (by omega) ?_;intro i g1 ih;by_cases hi:i<p.length
 ·obtain ⟨x,hx⟩ : ∃ x,p[i]? = some x:=⟨_,zE hi⟩
  have js:p[(i:Int).toNat]? = some x:=hx;have hy:=bI (r:=r) hi;rw[OX hx]at hy;have jr:((H0 p r).take i).length=i:=by rw[List.length_take];omega
  have Am:=JC (l:=(H0 p r).take i) (m:=p.length) (by omega);have g8:=L6 (l:=(H0 p r).take i) (m:=p.length) (x:=x+r.getD i 0) (by omega);rw[jr,<-Z3 hy]at g8;by_cases h2:i<r.length
  ·obtain ⟨y,vp⟩ : ∃ y,r[i]? = some y:=⟨_,zE h2⟩
   have Pw:r[(i:Int).toNat]? = some y:=vp;rw[OX vp]at g8;have hA:=P5 N.toa5 (hp.at hx) (hr.at vp) (by omega) (by omega);(repeat' ((first|(apply AH<;>intro hc<;>try omega)|(apply BA;omega)|apply AQ|(refine BH (by assumption) ?_ rfl ?_;omega)|apply AD|refine AG (hA) ?_)<;>conv=>whnf))
   refine GI (enc:=eO) (some (x+y)) rfl (λ e=>by cases e<;>rfl) (by omega) ?_;(conv=>whnf)
   (repeat' ((first|(apply A2;omega)|fail)<;>conv=>whnf))
   rw[g8];exact B2 [] (ih (i+1) (by omega) (by omega))
  ·rw[gD (l:=r) (by omega),Rat.add_zero]at g8
   have hT:=XR N.toa5 (hp.at hx) (by omega);(repeat' ((first|(apply AH<;>intro hc<;>try omega)|(apply BA;omega)|apply AQ|(refine BH (by assumption) ?_ rfl ?_;omega)|apply AD|refine AG (hT) ?_)<;>conv=>whnf))
   refine GI (enc:=eO) (some x) rfl (λ e=>by cases e<;>rfl) (by omega) ?_;(conv=>whnf)
   (repeat' ((first|(apply A2;omega)|fail)<;>conv=>whnf))
   rw[g8];exact B2 [] (ih (i+1) (by omega) (by omega))
 ·obtain rfl:i=p.length:=by omega
  clear ih;have yc:Bs (k+j+1) (H0 p r):=by
   intro z hz;obtain ⟨i,hi⟩:=List.getElem?_of_mem hz;have h1:=(zS hi).1;rw[lg]at h1;rw[bI h1]at hi;obtain rfl:=Option.some.inj hi;obtain ⟨x,hx⟩ : ∃ x,p[i]? = some x:=⟨_,zE h1⟩;rw[OX hx];by_cases h2:i<r.length
   ·obtain ⟨y,vp⟩ : ∃ y,r[i]? = some y:=⟨_,zE h2⟩
    rw[OX vp];exact (hp.at hx).add (hr.at vp)
   ·rw[gD (l:=r) (by omega),Rat.add_zero]
    exact (hp.at hx).le (by omega)
  rw[zT (Nat.le_of_eq lg),L4 lg,<-lg];generalize H0 p r=u at *;(repeat' ((first|(apply AH<;>intro hc<;>try omega)|apply AD)<;>conv=>whnf))
  refine FA 1000 N.G6 rfl rfl ?_;(repeat' (apply AD<;>conv=>whnf))
  refine DL (λ n=>n) (λ(n:Nat)=>n<=u.length/\EN u u.length=EN u n) (λ n=>[(3,.int .i64 n)]) (λ_=>[(16,16,.rw 3 (u.map eQ))]) u.length ⟨Nat.le_refl _,rfl⟩ ?_;intro n ⟨p1,p2⟩ ih;have done : ∀ {n:Nat},EN u u.length=n->FI u=u.take n:=λ h=>by rw[FI,h]
  by_cases hz:n=0\/(∃ m x,n=m+1/\u[m]? = some x/\x≠0)
  ·have ga:EN u u.length=n:=by
    rw[p2];rcases hz with rfl|⟨m,x,rfl,h1,h2⟩
    ·rfl
    ·rw[EN,if_neg]
     rw[List.getD_eq_getElem?_getD,h1];exact h2
   have vm:=done ga;have eu:(u.take n).length=n:=by rw[List.length_take];omega
   clear ih ga p2 done;rcases hz with h0|⟨m,x,Gl,h1,h2⟩
   case' inl=>(repeat' ((first|(apply AH<;>intro hc<;>try omega)|apply AD)<;>conv=>whnf))
   case' inr =>
    have mc:u[((n:Int)-1).toNat]? = some x:=by rw[show ((n:Int)-1).toNat=m by omega];exact h1
    have jz:=P7 N.toa5 (yc.at h1) (by omega);have hs:=NV (x:=x);generalize v5 x.num=s at *;have hS : ∀ v,u[((n:Int)-1).toNat]? = some v->Ev L 97 [.agg (eQ v)] (.int .i64 s):=λ v h=>by
     obtain rfl:=Option.some.inj (mc.symm.trans h);exact jz
    have pg:s≠0:=λ h=>h2 (hs.1 h)
    (repeat' ((first|(apply AH<;>intro hc<;>try omega)|(apply BA;omega)|(apply BN;omega)|(refine PS ?_ (λ_=>rfl) (λ v hv => ?_);omega)|apply AD|refine AG (hS _ hv) ?_)<;>conv=>whnf))
   all_goals
    refine FL n (by omega) (by omega) ?_;(conv=>whnf)
    skip
    refine ⟨rfl,_,rfl,?_⟩;(conv=>whnf)
    (refine FV (enc:=eQ) (λ_=>rfl) (by omega) ?_;rw[List.drop_zero,Nat.sub_zero,<-vm];exact AU rfl (by simp only[AZ,true_and];exact I4 _))
  ·obtain ⟨m,rfl⟩ : ∃ m,n=m+1:=⟨n-1,by omega⟩
   obtain ⟨x,hx⟩ : ∃ x,u[m]? = some x:=⟨_,zE (by omega)⟩;have fj:x=0:=by
    rcases Classical.em (x=0) with h|h
    ·exact h
    ·exact (hz (Or.inr ⟨m,x,rfl,hx,h⟩)).elim
   have js:u[((m+1:Nat)-1:Int).toNat]? = some x:=by rw[show ((m+1:Nat)-1:Int).toNat=m by omega];exact hx
   have jz:=P7 N.toa5 (yc.at hx) (by omega);have hs:=NV (x:=x);generalize v5 x.num=s at *;have hS : ∀ v,u[((m+1:Nat)-1:Int).toNat]? = some v->Ev L 97 [.agg (eQ v)] (.int .i64 s):=λ v h=>by
    obtain rfl:=Option.some.inj (js.symm.trans h);exact jz
   have pg:=hs.2 fj;(repeat' ((first|(apply AH<;>intro hc<;>try omega)|(apply BA;omega)|(apply BN;omega)|(refine PS ?_ (λ_=>rfl) (λ v hv => ?_);omega)|apply AD|refine AG (hS _ hv) ?_)<;>conv=>whnf))
   rw[show ((m+1:Nat):Int)-1=(m:Int) by omega];exact B2 [] (ih m (by omega) ⟨by omega,by rw[p2,EN,if_pos (by rw[List.getD_eq_getElem?_getD,hx];exact fj)]⟩)
end Go.c8

namespace Go.c8
open F
attribute [local irreducible] AA AF AX AB CQ AY BB A9 BS BR CX D9 BT A1 BP CK AC A5 AL pw C7 CE DM DF DP DU DY BQ DE
variable {L:Lib} (n:Nt)
set_option maxHeartbeats 1000000
def MD (w:Wd) (l:List Int):Bool:=l.all λ v=>decide (FT w v)
def I3 (st ins:List Int):Int:=if (st.length:Int)≠n.s then 1 else if MD n.d st&&MD n.d ins then 0 else 17
theorem vV (I:j8 L) (J:v8 L) (st ins:List Int) (q1 q2:Bool) (hn:st.length<9223372036854775808) (hm:ins.length<9223372036854775808):Ev L 22 [.agg (RP n),.sl q1 (st.map GK),.sl q2 (ins.map GK)] (.int .i64 (I3 n st ins)):=by
 refine Ev.x J.KH rfl rfl ?_;(repeat' ((first|(apply AH<;>intro hc<;>try omega)|apply AQ|apply AD)<;>conv=>whnf))
 ·exact B9 (by rw[I3,if_pos hc])
 have h0:=hc;refine DL (λ i=>st.length-i) (λ(i:Nat)=>i<=st.length/\MD n.d (st.drop i)=MD n.d st) (λ i=>[(18,.int .i64 i)]) (λ_=>[]) 0 ⟨by omega,rfl⟩ ?_;intro i ⟨p1,p2⟩ ih;(repeat' ((first|(apply AH<;>intro hc<;>try omega)|(apply A2;omega)|apply AQ|(refine NB ?_ (λ_=>rfl) (λ e he => ?_);omega)|apply AD|refine GR (UE ⟨_,_,_,_⟩ I _) (λ hf => ?_) (λ hf => ?_))<;>conv=>whnf))
 ·rw[IP he,MD,List.all_cons,decide_eq_true hf,Bool.true_and]at p2
  exact B2 [] (ih (i+1) (by omega) ⟨by omega,p2⟩)
 ·rw[IP he,MD,List.all_cons,decide_eq_false hf,Bool.false_and]at p2
  exact B9 (by rw[I3,if_neg (by omega),<-p2];simp)
 ·rw[OM (by omega)]at p2
  refine DL (λ i=>ins.length-i) (λ(i:Nat)=>i<=ins.length/\MD n.d (ins.drop i)=MD n.d ins) (λ i=>[(30,.int .i64 i)]) (λ_=>[]) 0 ⟨by omega,rfl⟩ ?_;intro j ⟨r1,r2⟩ dn;(repeat' ((first|(apply AH<;>intro hc<;>try omega)|(apply A2;omega)|(refine NB ?_ (λ_=>rfl) (λ e he => ?_);omega)|apply AD|refine GR (UE ⟨_,_,_,_⟩ I _) (λ hf => ?_) (λ hf => ?_))<;>conv=>whnf))
  ·rw[IP he,MD,List.all_cons,decide_eq_true hf,Bool.true_and]at r2
   exact BJ [] (by (conv=>whnf);exact ⟨rfl,rfl,rfl⟩) (dn (j+1) (by omega) ⟨by omega,r2⟩)
  ·rw[IP he,MD,List.all_cons,decide_eq_false hf,Bool.false_and]at r2
   exact B9 (by rw[I3,if_neg (by omega),<-r2];simp)
  ·rw[OM (by omega)]at r2
   exact B9 (by rw[I3,if_neg (by omega),<-r2,<-p2];rfl)
def NX (o7:List Int):Int->List (Int × Int)->Int
 | acc,[]=>acc
 | acc,t::ts=>NX o7 (IntKind.i64.wrap (acc+IntKind.i64.wrap (t.2*o7.getD t.1.toNat 0))) ts
theorem lJ (o7:List Int) : ∀ (ts:List (Int × Int)) (acc:Int),IL acc->IL (NX o7 acc ts)
 | [],acc,h=>h
 | t::ts,acc,_=>lJ o7 ts _ (La _)
def UV (o7:List Int) (nd:Nd):Int:=QT (NX o7 0 nd.ts) n.c.f n.d.r
def JB:List Int->Bool->List Nd->List Int × Bool
 | o7,ov,[]=>(o7,ov)
 | o7,ov,nd::l=>JB (o7++[ZA n.d (UV n o7 nd)]) (ov || !decide (FT n.d (UV n o7 nd))) l
theorem Jr {o7:List Int} {i:Nat} {nd:Nd} (h:nd.ts.all (M4 n.c n.s i)=true) (hl:(o7.length:Int)=1+n.s+i) : ∀ t∈nd.ts,0<=t.1/\t.1<o7.length:=λ t ht=>by
 have:=List.all_eq_true.1 h t ht
 simp only[M4,decide_eq_true_eq]at this;omega
theorem vU (I:j8 L) (J:v8 L) (st:List Int) (q1:Bool) (input:Int) (hv:NP n=true) (g8:(st.length:Int)=n.s):Ev L 23 [.agg (RP n),.sl q1 (st.map GK),.int .i64 input] (.e7 [.sl false ((JB n (input::st) false n.nodes).1.map GK),.bool (JB n (input::st) false n.nodes).2]):=by
 rw[O3]at hv;obtain ⟨h1,h2,h3,h4,h5,h6⟩:=hv;refine Ev.x J.KE rfl rfl ?_;(repeat' ((first|(apply A2;omega)|apply AQ|apply AD)<;>conv=>whnf))
 refine DQ (enc:=GK) 0 0 rfl rfl (by omega) ?_;(conv=>whnf)
 (repeat' (apply EW<;>conv=>whnf))
 refine ER (enc:=GK) (l:=[]) input rfl rfl rfl (by simp) (by simp) ?_;(conv=>whnf)
 refine VY (enc:=GK) rfl (λ_=>rfl) (by simp;omega) (by simp;omega) ?_;(conv=>whnf)
 (repeat' (apply AQ<;>conv=>whnf))
 refine E9 (λ i _ _=>n.nodes.length-i) (λ(i:Nat) (o7:List Int) (ov:Bool)=>i<=n.nodes.length/\(o7.length:Int)=1+n.s+i/\L9 n.c n.s i (n.nodes.drop i)=true/\JB n o7 ov (n.nodes.drop i)=JB n (input::st) false n.nodes) (λ i o7 ov=>[(8,.row 30 0 1 0 o7.length),(9,.bool ov),(34,.int .i64 i)]) (λ i o7 ov=>[(30,23,.rw 1 (o7.map GK))]) 0 (input::st) false ⟨by simp,by simp;omega,h4,rfl⟩ ?_;intro i o7 ov ⟨p1,p2,p3,p4⟩ ih;(repeat' ((first|(apply AH<;>intro hc<;>try omega)|apply AQ|(refine NB ?_ (λ_=>rfl) (λ e he => ?_);omega)|(refine C8 (λ_=>rfl) rfl ?_ ?_;(first|rfl|simp))|apply AD)<;>conv=>whnf))
 ·rename Nd=>nd
  have hnd:=he;rw[IP hnd]at p3 p4;simp only[L9,Bool.and_eq_true,decide_eq_true_eq]at p3;obtain ⟨⟨Ri,Pl⟩,Pp⟩:=p3;have hf:=Jr n Pl p2;have hI:IL (NX o7 0 nd.ts):=lJ o7 _ _ (by unfold IL;omega);refine IH (λ j _=>nd.ts.length-j) (λ(j:Nat) (acc:Int)=>j<=nd.ts.length/\NX o7 acc (nd.ts.drop j)=NX o7 0 nd.ts) (λ j acc=>[(12,.int .i64 acc),(41,.int .i64 j)]) (λ_ _=>[]) 0 0 ⟨by simp,rfl⟩ ?_;intro j acc ⟨r1,r2⟩ dn;(repeat' ((first|(apply AH<;>intro hc<;>try omega)|(refine NB ?_ (λ_=>rfl) (λ e he => ?_);omega)|apply AD)<;>conv=>whnf))
  ·have:=hf e (zM he)
   (repeat' ((first|(apply BA;omega)|(apply A2;omega)|apply aW|apply oI|(refine PS ?_ (λ_=>rfl) (λ v hv => ?_);omega))<;>conv=>whnf))
   rw[IP he,NX]at r2;refine BJ [] (by (conv=>whnf);exact ⟨rfl,rfl,rfl⟩) (dn (j+1) _ (by omega) ⟨by omega,?_⟩);rw[<-r2,List.getD_eq_getElem?_getD,hv];rfl
  ·rw[OM (by omega),NX]at r2
   subst r2;cases ov;all_goals (repeat' ((first|apply EW|refine GR (UE ⟨_,_,_,_⟩ I _) (λ hf => ?_) (λ hf => ?_)|refine AG (uZ I _ _ _ hI) ?_|refine AG (uX ⟨_,_,_,_⟩ I _) ?_)<;>conv=>whnf))
   all_goals (
    refine ER (enc:=GK) _ rfl rfl rfl (by omega) (by omega) ?_;(conv=>whnf)
    (repeat' ((first|(apply A2;omega)|fail)<;>conv=>whnf))
    refine BJ [(30,78)] (by (conv=>whnf);exact ⟨rfl,rfl,rfl⟩) (ih (i+1) _ _ (by omega) ⟨by omega,by simp;omega,Pp,?_⟩);rw[<-p4,JB];first|rfl|(have hf:FT n.d (UV n o7 nd):=hf;rw[decide_eq_true hf];rfl)|(have hf : ¬ FT n.d (UV n o7 nd):=hf;rw[decide_eq_false hf];rfl))
 ·rw[OM (by omega),JB]at p4
  rw[<-p4];exact AU rfl (by simp [AZ,CG,cF])
def MC (st:List Int) (x:Int):List Int × Bool × Int :=
 if NP n then (if I3 n st [x]=0 then ((JB n (x::st) false n.nodes).1,(JB n (x::st) false n.nodes).2,0) else ([],false,I3 n st [x])) else ([],false,2)
theorem Kp {st:List Int} {x:Int} (h:NP n=false):MC n st x=([],false,2):=by rw[MC,h];rfl
theorem Ko {st:List Int} {x:Int} (h:NP n=true) (h':I3 n st [x]≠0):MC n st x=([],false,I3 n st [x]):=by rw[MC,if_pos h,if_neg h']
theorem Kq {st:List Int} {x:Int} (h:NP n=true) (h':I3 n st [x]=0):MC n st x=((JB n (x::st) false n.nodes).1,(JB n (x::st) false n.nodes).2,0):=by rw[MC,if_pos h,if_pos h']
theorem Lc {st ins:List Int} (h:I3 n st ins=0):(st.length:Int)=n.s:=by
 unfold I3 at h;split at h
 ·cases h
 ·omega
theorem vT (I:j8 L) (J:v8 L) (st:List Int) (q1:Bool) (x:Int) (hn:st.length<9223372036854775808):Ev L 24 [.agg (RP n),.sl q1 (st.map GK),.int .i64 x] (.e7 [.sl false ((MC n st x).1.map GK),.bool (MC n st x).2.1,.int .i64 (MC n st x).2.2]):=by
 refine Ev.x J.KD rfl rfl ?_;(repeat' ((first|(apply AH<;>intro hc<;>try omega)|refine HY rfl ?_|apply AD|refine nT (vS n I J) (λ hf => ?_) (λ hf => ?_)|refine AG (vV n I J st [x] _ _ hn (by simp)) ?_)<;>conv=>whnf))
 ·rw[Ko n hf hc]
  exact AU rfl (by simp [AZ,CG,FB])
 ·rw[Kq n hf hc]
  (repeat' (refine AG (vU n I J st _ _ hf (Lc n hc)) ?_<;>conv=>whnf))
  exact AU rfl (by simp [AZ,CG,cF])
 ·rw[Kp n hf]
  exact AU rfl (by simp [AZ,CG,FB])
end Go.c8

namespace Go.c8
open F
attribute [local irreducible] AA AF AX AB CQ AY BB A9 BS BR CX D9 BT A1 BP CK AC A5 AL pw C7 CE DM DF DP DU DY BQ DE
variable {L:Lib}
set_option maxHeartbeats 4000000
theorem Kl (m p:Nat):(List.replicate m (0:Rat)).set p 1=EQ m p:=by
 refine List.ext_getElem? λ j => ?_
 simp only[EQ,List.getElem?_set,List.getElem?_map,List.getElem?_replicate,List.length_replicate];by_cases h:j<m
 ·rw[List.getElem?_range h]
  by_cases e:p=j
  ·subst e;simp [h]
  ·simp [h,e];intro h3;omega
 ·rw[List.getElem?_eq_none (by simpa using h)]
  simp [h];intro e;omega
theorem wP (N:e5 L) (m:Nat) (hm:m<=65536):N2 L 131 [.int .i64 (m:Int)] 3 ((List.replicate m (0:Rat)).map eQ):=by
 have hO:=OU N.toa5 0 (by omega);refine N2.x N.G4 rfl rfl ?_;(repeat' (apply AD<;>conv=>whnf))
 refine DQ (enc:=eO) none m rfl rfl (by omega) ?_;(conv=>whnf)
 skip
 refine GF (λ i=>m-i) (λ(i:Nat)=>i<=m) (λ i=>[(9,.int .i64 i)]) (λ i=>[(131006,131006,.rw 3 ((EH (List.replicate i 0) m).map eO))]) [] [] 0 (by first|exact (by (conv=>whnf);exact ⟨rfl,rfl,rfl⟩)|(rw[<-L5];exact (by (conv=>whnf);exact ⟨rfl,rfl,rfl⟩))) (by omega) ?_;intro i p1 ih;by_cases hi:i<m
 ·have hl:=JC (l:=List.replicate i (0:Rat)) (m:=m) (by simp;omega)
  have hs:=L6 (l:=List.replicate i (0:Rat)) (m:=m) (x:=0) (by simp;omega);rw[List.length_replicate]at hs;(repeat' ((first|(apply AH<;>intro hc<;>try omega)|(apply BA;omega)|apply AD|refine AG (hO) ?_)<;>conv=>whnf))
  refine GI (enc:=eO) (some 0) rfl (λ e=>by cases e<;>rfl) (by omega) ?_;(conv=>whnf)
  (repeat' ((first|(apply A2;omega)|fail)<;>conv=>whnf))
  rw[hs];rw[show List.replicate i (0:Rat)++[0]=List.replicate (i+1) 0 by rw[List.replicate_succ']];exact B2 [] (ih (i+1) (by omega) (by omega))
 obtain rfl:i=m:=by omega
 clear ih;rw[L4 (by simp)];(repeat' ((first|(apply AH<;>intro hc<;>try omega)|apply AD)<;>conv=>whnf))
 exact ⟨rfl,rfl,by simp,rfl,I4 _⟩
theorem fX {α:Type} (a b:α) {t m:Nat} (_:t<=m) (h:t<m):(List.replicate t a++List.replicate (m-t) b).set t a=List.replicate (t+1) a++List.replicate (m-(t+1)) b:=by
 obtain ⟨k,hk⟩ : ∃ k,m-t=k+1:=⟨m-t-1,by omega⟩;rw[List.set_append_right _ _ (by simp),hk,List.length_replicate,Nat.sub_self,List.replicate_succ,List.set_cons_zero,show m-(t+1)=k by omega,List.replicate_succ',List.append_assoc];rfl
def XT:Nt:=⟨⟨8,0,1,1⟩,⟨8,1,1,1⟩,0,true,[⟨true,[(0,3)]⟩],false,[],1⟩
theorem wQ:MC XT [] 5=([5,7],false,0):=by decide +kernel
theorem uW (I:j8 L) (J:v8 L):Ev L 32 [] (.bool true):=by
 have h:=vT XT I J [] false 5 (by decide);rw[wQ]at h;have h:Ev L 24 [.agg (RP XT),.sl false (([]:List Int).map GK),.int .i64 5] (.e7 [.sl false (([5,7]:List Int).map GK),.bool false,.int .i64 0]):=h;have hl:([5,7]:List Int).length=2:=rfl;have h1:([5,7]:List Int)[(1:Int).toNat]? = some 7:=rfl;refine Ev.x J.JS rfl rfl ?_;(repeat' (apply AD<;>conv=>whnf))
 refine BA rfl ?_;(conv=>whnf)
 (repeat' ((first|(apply AH<;>intro hc<;>try omega)|apply AQ|(refine BH (by assumption) ?_ rfl ?_;omega)|refine HY rfl ?_|refine AG (h) ?_)<;>conv=>whnf))
 exact E4 rfl
end Go.c8

namespace Go.c8
variable {L:Lib}
def iP:List Nat->Mem->Mem
 | [],M=>M
 | j::r,M=>iP r (m5 j M)
theorem mI {kk:List It} {tm:Tm} {M:Mem} {Q:Tm->Mem->Prop} (j:Nat) (h:AA L kk tm (m5 j M) Q):AA L kk tm M Q:=by
 intro σ st hr;exact h σ st ⟨hr.tm,⟨λ k s c e=>hr.sat.site k s c (JY e).2,λ k t c e=>hr.sat.c7 k t c (GL e).2,λ k t c e=>hr.sat.old k t c (GL e).2,λ k t k' t' c c' e e'=>hr.sat.inj k t k' t' c c' (GL e).2 (GL e').2,λ k t c e hw=>hr.sat.low k t c (GL e).2 hw⟩⟩
theorem aG {kk:List It} {tm:Tm} {Q:Tm->Mem->Prop} : ∀ (ks:List Nat) {M:Mem},AA L kk tm (iP ks M) Q->AA L kk tm M Q
 | [],_,h=>h
 | j::r,_,h=>mI j (aG r h)
end Go.c8

namespace Go.c8
open F
attribute [local irreducible] AA AF AX AB CQ AY BB A9 BS BR CX D9 BT A1 BP CK AC A5 AL pw C7 CE DM DF DP DU DY BQ DE
variable {L:Lib}
set_option maxHeartbeats 16000000
def Z5 (S:C1) (n:Nat):List Rat:=FI (EK S.a n n)
def Z6 (S:C1) (n:Nat):List Rat:=FI (H0 (HZ S n n) (FI ((EK S.a n n).map (· * S.d))))
def H4 (n i:Nat):List (List Rat):=(List.range n).map λ r:Nat=>if r<i then EQ n r else List.replicate n 0
theorem gP (n i:Nat):(H4 n i).length=n:=by simp [H4]
theorem xX (n:Nat):H4 n 0=List.replicate n (List.replicate n 0):=by
 refine List.ext_getElem? λ r => ?_
 simp only[H4,List.getElem?_map,List.getElem?_replicate];by_cases h:r<n
 ·rw[List.getElem?_range h,if_pos h];simp
 ·rw[List.getElem?_eq_none (by simp;omega),if_neg h];rfl
theorem xV (n:Nat):H4 n n=R5 n:=by
 refine List.map_congr_left λ r hr => ?_
 rw[if_pos (List.mem_range.1 hr)]
theorem xU {n i:Nat} (h:i<n):(H4 n i)[i]? = some (List.replicate n 0):=by
 simp only[H4,List.getElem?_map,List.getElem?_range h,Option.map_some,Nat.lt_irrefl,if_false]
theorem xW {n i:Nat} (h:i<n):(H4 n i).set i ((List.replicate n 0).set i 1)=H4 n (i+1):=by
 refine List.ext_getElem? λ r => ?_
 rw[List.getElem?_set,gP,Kl];simp only[H4,List.getElem?_map];by_cases hr:r<n
 ·rw[List.getElem?_range hr]
  by_cases e:i=r
  ·subst e;simp [h]
  ·simp only[e,if_false,Option.map_some]
   by_cases h3:r<i
   ·rw[if_pos h3,if_pos (by omega)]
   ·rw[if_neg h3,if_neg (by omega)]
 ·rw[List.getElem?_eq_none (by simp;omega)]
  simp;omega
def cf (l:List Rat) (prev:List (Option Rat)) (i:Nat):List (Option Rat):=(l.take i).map some++prev.drop i
theorem qS {l:List Rat} {prev:List (Option Rat)} {i n:Nat} (hl:l.length=n) (hp:prev.length=n) (hi:i<=n):(cf l prev i).length=n:=by
 simp [cf];omega
theorem qU (l:List Rat) (prev:List (Option Rat)):cf l prev 0=prev:=by simp [cf]
theorem qR {l:List Rat} {prev:List (Option Rat)} {n:Nat} (hl:l.length=n) (hp:prev.length=n):cf l prev n=l.map some:=by
 rw[cf,zT (by omega),List.drop_of_length_le (by omega),List.append_nil]
theorem qT {l:List Rat} {prev:List (Option Rat)} {i n:Nat} {x:Rat} (hp:prev.length=n) (hx:l[i]? = some x) (hi:i<n):(cf l prev i).set i (some x)=cf l prev (i+1):=by
 have Gk:=(zS hx).1;have eu:((l.take i).map some).length=i:=by rw[List.length_map,List.length_take];omega
 obtain ⟨y,hy⟩ : ∃ y,prev[i]? = some y:=⟨_,zE (by omega)⟩;obtain ⟨lf,Af⟩:=zS hy;rw[cf,List.set_append_right _ _ (by omega),eu,Nat.sub_self,List.drop_eq_getElem_cons lf,List.set_cons_zero,cf,I1 hx,List.map_append];simp
theorem iO (l:List Rat):(l.map some).map eO=l.map eQ:=by simp [Function.comp_def]
def ot (P:List (List Rat)) (n j i:Nat):List (List (Option Rat)):=(List.range P.length).map λ r=>EH ((P.getD r []).take (if r<i then j+1 else j)) n
theorem SE (P:List (List Rat)) (n j i:Nat):(ot P n j i).length=P.length:=by simp [ot]
theorem gG {P:List (List Rat)} {i:Nat} {row:List Rat} (h:P[i]? = some row):P.getD i []=row:=by rw[List.getD_eq_getElem?_getD,h];rfl
theorem U0 {P:List (List Rat)} {n j i r:Nat} {row:List Rat} (h:P[r]? = some row):(ot P n j i)[r]? = some (EH (row.take (if r<i then j+1 else j)) n):=by
 have h1:=(zS h).1;simp only[ot,List.getElem?_map,List.getElem?_range h1,Option.map_some,gG h]
theorem Ke {P:List (List Rat)} {n j i:Nat} {row:List Rat} (h:P[i]? = some row):(ot P n j i).set i (EH (row.take (j+1)) n)=ot P n j (i+1):=by
 refine List.ext_getElem? λ r => ?_
 rw[List.getElem?_set,SE];cases e:P[r]? with
 | none =>
  have h1:=List.getElem?_eq_none_iff.1 e;have h2:=(zS h).1;rw[List.getElem?_eq_none (by rw[SE];exact h1),if_neg (by omega),List.getElem?_eq_none (by rw[SE];exact h1)]
 | some jc =>
  rw[U0 e,U0 e];by_cases hi:i=r
  ·subst hi
   obtain rfl:=Option.some.inj (h.symm.trans e);have h2:=(zS h).1;rw[if_pos rfl,if_pos h2,if_pos (by omega)]
  ·rw[if_neg hi]
   by_cases h3:r<i
   ·rw[if_pos h3,if_pos (by omega)]
   ·rw[if_neg h3,if_neg (by omega)]
theorem Kd (P:List (List Rat)) (n j:Nat):ot P n j P.length=ot P n (j+1) 0:=by
 refine List.map_congr_left λ r hr => ?_
 rw[if_pos (List.mem_range.1 hr),if_neg (by omega)]
theorem Kf (P:List (List Rat)) (n:Nat):ot P n 0 0=List.replicate P.length (EH [] n):=by
 refine List.ext_getElem? λ r => ?_
 simp only[ot,List.getElem?_map,List.getElem?_replicate];by_cases h:r<P.length
 ·rw[List.getElem?_range h,if_pos h];simp
 ·rw[List.getElem?_eq_none (by simp;omega),if_neg h];rfl
theorem Kc {P:List (List Rat)} {n:Nat} (h : ∀ r∈P,r.length=n):FZ 3 eO (ot P n n 0)=FZ 3 eQ P:=by
 refine List.ext_getElem? λ r => ?_
 simp only[FZ,List.getElem?_map];cases e:P[r]? with
 | none=>rw[List.getElem?_eq_none (by rw[SE];exact List.getElem?_eq_none_iff.1 e)];rfl
 | some row =>
  have hl:=h row (zM e);rw[U0 e,if_neg (by omega),zT (by omega)];simp only[Option.map_some,L4 hl]
end Go.c8

namespace Go.c8
end Go.c8

namespace Go.c8
open F
attribute [local irreducible] AA AF AX AB CQ AY BB A9 BS BR CX D9 BT A1 BP CK AC A5 AL pw C7 CE DM DF DP DU DY BQ DE
variable {L:Lib}
set_option maxHeartbeats 16000000
end Go.c8

namespace Go.c8
open Go.ChangeShapes Go.WideShapes Go.ChangeAt Go.RowKit
inductive Ty where
 | int (k:IntKind)
 | bool
 | sl (e:Ty)
 | nil
 | cons (a r:Ty)
def Ty.cells:Ty->Nat
 | .int _=>1 | .bool=>1 | .sl _=>1
 | .nil=>0
 | .cons a r=>a.cells+r.cells
def EV (l:Bool):Ty->List AV->Prop
 | .int k,cs => ∃ n,cs=[.int k n]/\(Lit.int k n).wf=true
 | .bool,cs => ∃ b,cs=[.bool b]
 | .sl e,cs => ∃ es,cs=[.sl l es]/\es.length<=maxLen /\ ∀ x∈es,EV l e x
 | .nil,cs=>cs=[]
 | .cons a r,cs => ∃ x y,cs=x++y/\EV l a x/\EV l r y
theorem EV.len {l:Bool} : ∀ {ty:Ty} {cs:List AV},EV l ty cs->cs.length=ty.cells
 | .int _,cs,h=>by obtain ⟨n,rfl,_⟩:=h;rfl
 | .bool,cs,h=>by obtain ⟨n,rfl⟩:=h;rfl
 | .sl _,cs,h=>by obtain ⟨n,rfl,_⟩:=h;rfl
 | .nil,cs,h=>by rw[show cs=[] from h];rfl
 | .cons a r,cs,h=>by obtain ⟨x,y,rfl,h1,h2⟩:=h;simp [Ty.cells,EV.len h1,EV.len h2]
def IW (P:Program):Nat->TypeId->Ty->Bool
 | 0,_,_=>false
 | n+1,t,ty=>match P.underlying t,ty with
  | some (.int k),.int k'=>decide (k=k')
  | some .bool,.bool=>true
  | some (.slice e),.sl dp=>IW P n e dp&&(P.cellsOf e == dp.cells&&decide (0<dp.cells))
  | some (.struct fs),ty=>go (IW P n) fs.toList 0 ty&&P.cellsOf t == ty.cells
  | _,_=>false
where
 go (ok:TypeId->Ty->Bool):List Field->Nat->Ty->Bool
  | [],_,.nil=>true
  | f::fs,off,.cons a r=>(f.offset == off&&(ok f.type a&&P.cellsOf f.type == a.cells))&&go ok fs (off+a.cells) r
  | _,_,_=>false
section
variable {H:Type} {enc:TypeId × Value->H} {P:Program} {w:World} {base:Nat} {spare:Nat->Bool} {held:Bool} {R:Bool->Nat->Prop}
def GG (w:World) (R:Bool->Nat->Prop) (as:List AV) (cs:List Value):Prop:=as.length=cs.length /\ ∀ (j:Nat) (a:AV) (c:Value),as[j]? = some a->cs[j]? = some c->Rd w R a c
theorem GG.one {a:AV} {c:Value} (h:Rd w R a c):GG w R [a] [c]:=by
 refine ⟨rfl,λ j a' c' h1 h2 => ?_⟩;cases j with
 | zero=>simp at h1 h2;subst h1 h2;exact h
 | succ j=>simp at h1
theorem GG.append {as bs:List AV} {cs ds:List Value} (h1:GG w R as cs) (h2:GG w R bs ds):GG w R (as++bs) (cs++ds):=by
 refine ⟨by simp [h1.1,h2.1],λ j a c ha hc => ?_⟩;by_cases hj:j<as.length
 ·rw[List.getElem?_append_left hj]at ha
  rw[List.getElem?_append_left (by rw[<-h1.1];exact hj)]at hc;exact h1.2 j a c ha hc
 ·rw[List.getElem?_append_right (by omega)]at ha
  rw[List.getElem?_append_right (by rw[<-h1.1];omega),<-h1.1]at hc;exact h2.2 _ a c ha hc
theorem bJ (a:Addr) (i:Nat) (h:a.spot=none):a.add i=⟨a.block,a.off+i,none⟩:=by
 obtain ⟨b,o,s⟩:=a;simp only at h;subst h;exact F4 b o i
end
theorem qF {B:Nat} {S:Nat->Prop} {m:M} : ∀ (j:Nat) (c:AV) (v:Value),([]:List AV)[j]? = some c->([]:List Value)[j]? = some v->CA B S m c v:=λ j c v h=>by simp at h
theorem bR {B:Nat} {S:Nat->Prop} {m:M} {a:AV} {u:Value} {as:List AV} {us:List Value} (h:CA B S m a u) (hr : ∀ (j:Nat) (c:AV) (v:Value),as[j]? = some c->us[j]? = some v->CA B S m c v) :
  ∀ (j:Nat) (c:AV) (v:Value),(a::as)[j]? = some c->(u::us)[j]? = some v->CA B S m c v
 | 0,c,v,h1,h2=>by simp at h1 h2;subst h1 h2;exact h
 | j+1,c,v,h1,h2=>hr j c v (by simpa using h1) (by simpa using h2)
theorem zD {P:Program} {num:Nat->Nat} {L:Lib} (hP:ProgOK P num L) {f:Nat} {vs:List AV} (h:Ev L f vs (.bool true)) {S:Nat->Prop} {w:World} {us:List Value} (hl:vs.length=us.length)
  (ha : ∀ (j:Nat) (c:AV) (v:Value),vs[j]? = some c->us[j]? = some v->CA w.heap.size S ⟨λ_ _=>none,AE.emp,w⟩ c v) :
  Calls P (num f) us.toArray w λ e w'=>e = .returned (.bool true)/\Below w.heap.size w w':=by
 obtain ⟨n,hn⟩:=h;refine ((qQ hP n).pure f vs _ hn S w us hl ha).mono ?_;rintro e w' ⟨u,rfl,hb,o5,_⟩
 refine ⟨?_,hb⟩;cases o5 with
 | ca ka=>cases ka with
  | one q7=>cases q7 with
   | rd dz=>cases dz;rfl
end Go.c8

namespace Go.c8
open Go.ChangeShapes Go.WideShapes Go.ChangeAt Go.RowKit
def C9:Ty->List AV->Nat
 | .int _,_=>1
 | .bool,_=>1
 | .sl e,cs=>match cs with
  | [.sl _ es]=>(es.map (C9 e)).sum+1
  | _=>0
 | .nil,_=>0
 | .cons a r,cs=>C9 a (cs.take a.cells)+C9 r (cs.drop a.cells)
structure S4 {H:Type} (D:DataW H->Nat):Prop where
 lit : ∀ l,1<=D (.lit l)
 nil:1<=D .nil
 slice : ∀ es sp,(es.map D).sum+1<=D (.slice es sp)
 agg : ∀ ps,(ps.map D).sum<=D (.agg ps)
theorem lK {α:Type} : ∀ (l:List α) (g:α->Nat) (f:Nat->Nat),(∀ i a,l[i]? = some a->f i<=g a)->((List.range l.length).map f).sum<=(l.map g).sum
 | [],_,_,_=>Nat.le_refl _
 | a::l,g,f,h=>by
  rw[List.length_cons,List.range_succ_eq_map,List.map_cons,List.map_map,List.sum_cons,List.map_cons,List.sum_cons];exact Nat.add_le_add (h 0 a rfl) (lK l g (f ∘ Nat.succ) λ i b hb=>h (i+1) b (by simpa using hb))
section
variable {H:Type} {enc:TypeId × Value->H} {P:Program} {w:World} {base:Nat} {spare:Nat->Bool} {held:Bool} {R:Bool->Nat->Prop}
theorem jN {l:Bool} {D:DataW H->Nat} (hR : ∀ b,b<w.heap.size->R l b) (m:Nat) (ih : ∀ (ty:Ty) (t:TypeId) (cs:List Value) (fuel:Nat) (x:DataW H × List MemPlace),IW P m t ty=true->DataW.trod enc P w base spare held fuel t cs=some x -> ∃ as,EV l ty as/\GG w R as cs/\C9 ty as<=D x.1)
  (n:Nat) (cs:List Value) : ∀ (fs:List Field) (ys:List (DataW H × List MemPlace)) (off:Nat) (ty:Ty),IW.go P (IW P m) fs off ty=true->ys.length=fs.length->(∀ (i:Nat) (f:Field),fs[i]? = some f->DataW.trod enc P w base spare held n f.type ((cs.drop f.offset).take (P.cellsOf f.type))=ys[i]?)->off+ty.cells=cs.length -> ∃ as,EV l ty as/\GG w R as (cs.drop off)/\C9 ty as<=(ys.map λ y=>D y.1).sum
 | [],ys,off,ty,e8,_,_,hl=>by
  cases ty<;>simp only[IW.go,Bool.false_eq_true]at e8;simp only[Ty.cells]at hl;exact ⟨[],rfl,by rw[List.drop_of_length_le (by omega)];exact ⟨rfl,λ j a c h=>by simp at h⟩,Nat.zero_le _⟩
 | f::fs,[],off,ty,_,vt,_,_=>by simp at vt
 | f::fs,y::ys,off,ty,e8,vt,hf,hl=>by
  cases ty<;>simp only[IW.go,Bool.false_eq_true,Bool.and_eq_true,beq_iff_eq]at e8;rename_i a r;obtain ⟨⟨h1,h2,h3⟩,h4⟩:=e8;simp only[Ty.cells]at hl;have hy:=hf 0 f rfl;rw[List.getElem?_cons_zero,h1,h3]at hy;obtain ⟨Fe,g1,g2,g5⟩:=ih a f.type _ n y h2 hy;obtain ⟨Ff,g3,g4,g6⟩:=jN hR m ih n cs fs ys (off+a.cells) r h4 (by simpa using vt) (λ i f' h'=>hf (i+1) f' (by simpa using h')) (by omega);refine ⟨Fe++Ff,⟨Fe,Ff,rfl,g1,g3⟩,?_,?_⟩
  ·have:=g2.append g4
   rwa [show (cs.drop off).take a.cells++cs.drop (off+a.cells)=cs.drop off by rw[<-List.drop_drop,List.take_append_drop]]at this
  ·rw[C9,<-g1.len,List.take_left' rfl,List.drop_left' rfl,List.map_cons,List.sum_cons]
   omega
theorem YW {l:Bool} {D:DataW H->Nat} (hD:S4 D) (hR : ∀ b,b<w.heap.size->R l b) : ∀ (m:Nat) (ty:Ty) (t:TypeId) (cs:List Value) (fuel:Nat) (x:DataW H × List MemPlace),IW P m t ty=true->DataW.trod enc P w base spare held fuel t cs=some x -> ∃ as,EV l ty as/\GG w R as cs/\C9 ty as<=D x.1
 | 0,_,_,_,_,_,h,_=>by simp [IW]at h
 | m+1,ty,t,cs,fuel,x,e8,h=>by
  have ih:=YW hD hR m;simp only[IW]at e8;split at e8
  ·rename_i k k' hu
   obtain rfl:k=k':=by simpa using e8
   obtain ⟨n,rfl,rfl,hw⟩:=DataW.trod_int hu h;exact ⟨[.int k n],⟨n,rfl,hw⟩,GG.one (.int k n),hD.lit _⟩
  ·rename_i hu
   cases fuel with
   | zero=>simp [DataW.trod]at h
   | succ fuel =>
    unfold DataW.trod at h;rw[hu]at h;split at h<;>simp_all
    subst h;exact ⟨_,⟨_,rfl⟩,GG.one (.bool _),hD.lit _⟩
  ·rename_i e dp hu
   simp only[Bool.and_eq_true,beq_iff_eq,decide_eq_true_eq]at e8;obtain ⟨h1,h2,h3⟩:=e8;rcases DataW.trod_slice hu h with ⟨rfl,rfl⟩|⟨a,len,cap,elems,rest,n,_,rfl,rfl,hb,hl,hm,hlen,y9,_,_⟩
   ·exact ⟨[.sl l []],⟨[],rfl,by simp,by simp⟩,GG.one (.dd l none 0),by simpa [C9] using hD.nil⟩
   ·have each : ∀ i,i<len -> ∃ as y8,EV l dp as/\GG w R as y8/\y8.length=dp.cells/\(∀ j,j<dp.cells->w.cell? ((a.add (i*dp.cells)).add j)=y8[j]?) /\ ∀ y,elems[i]? = some y->C9 dp as<=D y.1:=by
     intro i hi;have:=y9 i hi
     rw[h2,zE (by omega),Option.bind_eq_some_iff]at this;obtain ⟨y8,hc,ht⟩:=this;obtain ⟨as,g1,g2,g3⟩:=ih dp e y8 n _ h1 ht;obtain ⟨_,q1,q2⟩:=World.cells?_some hc;exact ⟨as,y8,g1,g2,q1,q2,λ y hy=>by rw[zE (by omega)]at hy;obtain rfl:=Option.some.inj hy;exact g3⟩
    by_cases h0:len=0
    ·subst h0
     exact ⟨[.sl l []],⟨[],rfl,by simp,by simp⟩,GG.one (.dd l (some a) cap),by have:=hD.slice (elems.map (·.1)) (rest.map (·.1));simp only[C9,List.map_nil,List.sum_nil];omega⟩
    ·have rh:a.spot=none:=by
      obtain ⟨as,y8,_,_,q1,q2,_⟩:=each 0 (by omega);have:=q2 0 h3
      rw[zE (by omega)]at this;simpa [Addr.add] using World.cell?_spot this
     have fz:a.block<w.heap.size:=by
      obtain ⟨as,y8,_,_,q1,q2,_⟩:=each 0 (by omega);have:=q2 0 h3
      rw[zE (by omega)]at this;simpa [Addr.add] using OD this
     have pick : ∃ f:Nat->List AV × List Value,∀ i,i<len->EV l dp (f i).1/\GG w R (f i).1 (f i).2/\(f i).2.length=dp.cells/\(∀ j,j<dp.cells->w.cell? ((a.add (i*dp.cells)).add j)=(f i).2[j]?) /\ ∀ y,elems[i]? = some y->C9 dp (f i).1<=D y.1:=by
      refine ⟨λ i=>if hi:i<len then (Classical.choose (each i hi),Classical.choose (Classical.choose_spec (each i hi))) else ([],[]),λ i hi => ?_⟩;simp only[hi,dif_pos];exact Classical.choose_spec (Classical.choose_spec (each i hi))
     obtain ⟨f,hf⟩:=pick;have l6 : ∀ i e',((List.range len).map λ i=>(f i).1)[i]? = some e'->i<len/\e'=(f i).1:=by
      intro i e' he;rw[List.getElem?_map]at he;by_cases hi:i<len
      ·rw[List.getElem?_range hi]at he
       simp at he;exact ⟨hi,he.symm⟩
      ·rw[List.getElem?_eq_none (by simpa using hi)]at he
       cases he
     refine ⟨[.sl l ((List.range len).map λ i=>(f i).1)],⟨_,rfl,by simp;omega,λ x hx => ?_⟩,GG.one ?_,?_⟩
     ·obtain ⟨i,hi,rfl⟩:=List.mem_map.1 hx
      exact (hf i (List.mem_range.1 hi)).1
     rotate_left
     ·have h8:=hD.slice (elems.map (·.1)) (rest.map (·.1))
      have h9:=lK elems (λ y=>D y.1) (λ i=>C9 dp (f i).1) λ i y hy=>(hf i (by have:=(zS hy).1;omega)).2.2.2.2 y hy
      rw[hlen]at h9;simp only[List.map_map]at h8;simp only[C9,List.map_map];exact Nat.le_trans (Nat.add_le_add_right h9 1) h8
     ·obtain ⟨ab,ao,as⟩:=a
      simp only at rh;subst rh;have qt:((List.range len).map λ i=>(f i).1).length=len:=by simp
      have:=Rd.sl (w:=w) (R:=R) l ((List.range len).map λ i=>(f i).1) ab ao dp.cells cap (λ i j=>((f i).2[j]?).getD default) (by intro e;have:=congrArg List.length e;simp at this;omega) h3 (hR ab fz) (by rw[qt];exact hl)
       (λ e' he=>by
        obtain ⟨i,hi,rfl⟩:=List.mem_map.1 he;exact (hf i (List.mem_range.1 hi)).1.len)
       (λ i e' he j c hc=>by
        obtain ⟨hi,rfl⟩:=l6 i e' he;obtain ⟨g1,g2,g3,g4,_⟩:=hf i hi;have hj:j<dp.cells:=by
         have:=(zS hc).1
         rwa [g1.len]at this
        have h5:=g4 j hj;rw[bJ ⟨ab,ao,none⟩ (i*dp.cells) rfl,bJ _ _ rfl]at h5;simp only at h5;rw[show ao+(i*dp.cells+j)=ao+i*dp.cells+j by omega,h5,zE (by omega)];rfl)
       (λ i e' he j c hc=>by
        obtain ⟨hi,rfl⟩:=l6 i e' he;obtain ⟨g1,g2,g3,g4,_⟩:=hf i hi;have hj:j<dp.cells:=by
         have:=(zS hc).1
         rwa [g1.len]at this
        have h6:(f i).2[j]? = some ((f i).2[j]'(by omega)):=zE _;rw[h6];exact g2.2 j c _ hc h6)
      rwa [qt]at this
  ·rename_i fs hu
   simp only[Bool.and_eq_true,beq_iff_eq]at e8;obtain ⟨h1,h2⟩:=e8;obtain ⟨xs,n,_,rfl,hl,hlen,hf⟩:=DataW.trod_struct hu h;obtain ⟨as,q1,q2,q3⟩:=jN (D:=D) hR m ih n cs fs.toList xs 0 _ h1 (by simpa using hlen) (λ i f gd=>hf i f (by simpa using gd)) (by rw[hl,h2];omega);have h8:=hD.agg (xs.map (·.1));simp only[List.map_map]at h8;exact ⟨as,q1,by simpa using q2,Nat.le_trans q3 h8⟩
  ·exact absurd e8 (by simp)
theorem Jy {D:DataW H->Nat} (hD:S4 D) {ty:Ty} {t:TypeId} {v:Value} {d:DataW H} {ps:List MemPlace} {m:Nat} (e8:IW P m t ty=true) (hv:v.cells.toList=[v]) (h:DataW.Trod enc P w base spare held t v d ps) :
  ∃ a,(EV false ty [a]/\C9 ty [a]<=D d)/\CA w.heap.size (λ_=>True) ⟨λ_ _=>none,AE.emp,w⟩ a v:=by
 obtain ⟨fuel,hf⟩:=h;rw[hv]at hf;obtain ⟨as,h1,h2,h3⟩:=YW hD (l:=false) (R:=safe w.heap.size (λ_=>True) ⟨λ_ _=>none,AE.emp,w⟩) (λ b hb=>Or.inl ⟨trivial,hb⟩) m ty t [v] fuel _ e8 hf;obtain ⟨a,rfl⟩ : ∃ a,as=[a]:=by
  have:=h2.1
  match as,this with
  | [a],_=>exact ⟨a,rfl⟩
 exact ⟨a,⟨h1,h3⟩,.one (.rd (h2.2 0 a v rfl rfl))⟩
theorem Jz {D:DataW H->Nat} (hD:S4 D) {ty:Ty} {t:TypeId} {cs:Array Value} {d:DataW H} {ps:List MemPlace} {m:Nat} (e8:IW P m t ty=true) (h:DataW.Trod enc P w base spare held t (.agg cs) d ps) :
  ∃ as,(EV false ty as/\C9 ty as<=D d)/\CA w.heap.size (λ_=>True) ⟨λ_ _=>none,AE.emp,w⟩ (.agg as) (.agg cs):=by
 obtain ⟨fuel,hf⟩:=h;obtain ⟨as,h1,h2,h3⟩:=YW hD (l:=false) (R:=safe w.heap.size (λ_=>True) ⟨λ_ _=>none,AE.emp,w⟩) (λ b hb=>Or.inl ⟨trivial,hb⟩) m ty t cs.toList fuel _ e8 hf;refine ⟨as,⟨h1,h3⟩,?_⟩;have:=CA.agg (B:=w.heap.size) (S:=λ_=>True) (m:=⟨λ_ _=>none,AE.emp,w⟩) as cs.toList ⟨h2.1,λ j c v hc hv => .rd (h2.2 j c v hc hv)⟩
 simpa using this
end
end Go.c8

namespace Go.c8
abbrev tI:Ty := .int .i64
theorem iK {α:Type} {enc:α->List AV} {p:α->Prop} : ∀ {es:List (List AV)},(∀ x∈es,∃ y,x=enc y/\p y) -> ∃ l:List α,es=l.map enc /\ ∀ y∈l,p y
 | [],_=>⟨[],rfl,by simp⟩
 | e::es,h=>by
  obtain ⟨y,rfl,hy⟩:=h e List.mem_cons_self;obtain ⟨l,rfl,hl⟩:=iK (enc:=enc) (p:=p) λ x hx=>h x (List.mem_cons_of_mem _ hx)
  exact ⟨y::l,rfl,by simpa using ⟨hy,hl⟩⟩
theorem Ku {n:Int} (h:(Lit.int .i64 n).wf=true):IL n:=by
 simp only[Lit.wf,Bool.and_eq_true,decide_eq_true_eq]at h;have h1:IntKind.i64.min = -9223372036854775808:=rfl;have h2:IntKind.i64.max=9223372036854775807:=rfl;rw[h1,h2]at h;unfold IL;constructor<;>omega
end Go.c8

namespace Go.c8
open F
attribute [local irreducible] AA AF AX AB CQ AY BB A9 BS BR CX D9 BT A1 BP CK AC A5 AL pw C7 CE DM DF DP DU DY BQ DE
variable {L:Lib}
set_option maxHeartbeats 8000000
end Go.c8

namespace Go.c8
variable {L:Lib}
end Go.c8

namespace Go.c8
open F
attribute [local irreducible] AA AF AX AB CQ AY BB A9 BS BR CX D9 BT A1 BP CK AC A5 AL pw C7 CE DM DF DP DU DY BQ DE
variable {L:Lib}
set_option maxHeartbeats 16000000
abbrev tV (q:Bool) (m:List (List A3)):List (List AV):=m.map λ r=>[AV.sl q (r.map eW)]
def vM (m:List (List A3)):List (List Rat):=m.map λ r=>r.map A3.v
def A3.Fit (k:Nat) (w:A3):Prop:=Bt k w.v/\w.Sz 68719476736
def V1 (k:Nat) (m:List (List A3)):Prop := ∀ r∈m,∀ x∈r,x.Fit k
def wR (r:List Rat):List A3:=r.map ZI
theorem ON (r:List Rat):(wR r).map eW=r.map eQ:=by
 rw[wR,List.map_map];rfl
theorem PJ (r:List Rat):(wR r).map A3.v=r:=by
 rw[wR,List.map_map];exact (List.map_congr_left λ x _=>kI x).trans (List.map_id' r)
theorem wU {k:Nat} {x:Rat} (h:Bt k x) (hk:k<2199023255552):(ZI x).Fit k:=by
 refine ⟨by rw[kI];exact h,?_⟩;exact h.gn hk
theorem V1.ms {k:Nat} {m:List (List A3)} (h:V1 k m):Ms k (vM m):=λ r hr x hx=>by
 obtain ⟨s,hs,rfl⟩:=List.mem_map.1 hr;obtain ⟨y,hy,rfl⟩:=List.mem_map.1 hx;exact (h s hs y hy).1
theorem A3.Sz.fit {w:A3} {k:Nat} (h:w.Sz k) (hk:k<=68719476736):w.Fit (32*k):=⟨A3.bt h,h.1.le hk,h.2.le hk⟩
theorem VS {m:List (List A3)} {n:Nat} (h:m.length=n):(vM m).length=n:=by rw[vM,List.length_map];exact h
theorem Kn {m:List (List A3)} {w:Nat} (h : ∀ r∈m,r.length=w) : ∀ r∈vM m,r.length=w:=λ r hr=>by
 obtain ⟨s,hs,rfl⟩:=List.mem_map.1 hr;rw[List.length_map];exact h s hs
theorem lU {r:List A3} {j:Nat} {x:A3} (h:r[j]? = some x):(r.map A3.v)[j]? = some x.v:=by rw[List.getElem?_map,h];rfl
theorem aB {m:List (List A3)} {i:Nat} {r:List A3} (h:m[i]? = some r):(vM m)[i]? = some (r.map A3.v):=by rw[vM,List.getElem?_map,h];rfl
theorem bO {α:Type} {p:α->Bool} {l:List α} {i:Nat} {x:α} (hx:l[i]? = some x) (h:p x=false):l.all p=false:=by
 rw[List.all_eq_false];exact ⟨x,zM hx,by rw[h];decide⟩
theorem bN {α:Type} {p:α->Bool} {l:List α} (h : ∀ (j:Nat) (x:α),l[j]? = some x->p x=true):l.all p=true:=by
 rw[List.all_eq_true];intro x hx;obtain ⟨j,hj⟩:=List.getElem?_of_mem hx;exact h j x hj
def Fs (k:Nat) (r:List A3):Prop := ∀ x∈r,x.Fit k
theorem Fs.of {k:Nat} {r:List Rat} (h:Bs k r) (hk:k<2199023255552):Fs k (wR r):=λ x hx=>by
 obtain ⟨y,hy,rfl⟩:=List.mem_map.1 hx;exact wU (h y hy) hk
theorem Fs.bs {k:Nat} {r:List A3} (h:Fs k r):Bs k (r.map A3.v):=λ x hx=>by
 obtain ⟨y,hy,rfl⟩:=List.mem_map.1 hx;exact (h y hy).1
end Go.c8
