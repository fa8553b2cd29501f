/-
  Natural numbers (layer 1): division.
-/
import Derived.Test.YtplhdlbnneoobaaGreatB9
import Derived.Test.YtplhdlbnneoobaaGreatB8
import Derived.Test.YtplhdlbnneoobaaGreatB7
import Derived.Test.YtplhdlbnneoobaaGreatB4
import Derived.Test.YtplhdlbnneoobaaGreatB1
set_option linter.unusedSimpArgs false
set_option linter.unusedVariables false
set_option linter.unnecessarySimpa false
namespace Go.c4
open F
attribute [local irreducible] AA AF AR AB B7 AQ AY A7 A6 BS AP BO BW C0 BL A0 BH BZ AC A4 AL pw CD B2 CH CX CS CK CI BI B8
variable {L:Lib}
set_option maxHeartbeats 4000000
theorem Kz {V R y d t Q:Nat} (h:Q*y+R=V) (ht:t=R*4294967296+d):(t/y+4294967296*Q)*y+t%y=d+4294967296*V:=by
 have:=Nat.div_add_mod t y
 rw[<-h,Nat.add_mul];have e:t/y*y=y*(t/y):=Nat.mul_comm _ _;grind
theorem RJ (a b:List Nat):A1 (.j4 [.sl false (a.map AJ),.sl false (b.map AJ)]):=by
 simp only[A1,CM,and_true,true_and];exact ⟨CO a,CO b⟩
set_option maxHeartbeats 4000000 in
theorem XR (N:c5 L) (X Y:Nat) (q1 q2:Bool) (hY:Y≠0) (lx:(dg X).length<=549755813888) (ly:(dg Y).length<=549755813888):Ev L 74 [.sl q1 ((dg X).map AJ),.sl q2 ((dg Y).map AJ)] (.j4 [.sl false ((dg (X/Y)).map AJ),.sl false ((dg (X%Y)).map AJ)]):=by
 have k7:=λ q q'=>M7 N (dg X) (dg Y) q q' (DF X) (DF Y) (by omega) (by omega)
 rw[BK,BK]at k7;have d1:=DF X;have d2:=DF Y;have v1:=BK X;have v2:=BK Y;have Sh:=RP hY;refine Ev.x N.JZ rfl rfl ?_;by_cases l6:X<Y
 ·have hn:CT X Y = -1:=(HC (by omega)).symm
  rw[hn]at k7;(repeat' ((first|(apply AH<;>intro hc<;>try (exfalso;omega))|apply AE|refine AD (k7 _ _) ?_|refine AD (fA N (dg X) _ (by omega)) ?_)<;>conv=>whnf))
  refine AU ?_ (RJ _ _);rw[Nat.div_eq_of_lt l6,Nat.mod_eq_of_lt l6,EH];rfl
 have gu:0<=CT X Y:=by unfold CT;split<;>(try split)<;>omega
 have pd:=NW (show Y<=X by omega);generalize CT X Y=cm at *;by_cases h1:(dg Y).length=1
 ·-- one digit
  obtain ⟨y0,jq⟩ : ∃ y0,dg Y=[y0]:=List.length_eq_one_iff.1 h1;have jr:Y=y0:=by rw[<-v2,jq];simp [val]
  subst jr;have wu:Y<4294967296:=d2 Y (by rw[jq];simp);have Si:(dg Y)[0]? = some Y:=by rw[jq];rfl
  clear jq v2;generalize dg Y=y at *;generalize hx:dg X=x at *;(repeat' ((first|(apply AH<;>intro hc<;>try (exfalso;omega))|(apply AZ;omega)|(apply BX;omega)|apply AW|apply AE|refine AD (k7 _ _) ?_)<;>conv=>whnf))
  refine FF (enc:=AJ) 0 x.length rfl (by omega) (by omega) ?_;(conv=>whnf)
  (repeat' ((first|(apply AH<;>intro hc<;>try (exfalso;omega))|(apply BX;omega)|apply AW)<;>conv=>whnf))
  refine FN (λ n _ _=>n) (λ(n:Nat) (o:List Nat) (r:Nat)=>n<=x.length/\o.length=x.length/\AX o/\r<Y/\val (o.drop n)*Y+r=val (x.drop n)) (λ n o r=>[(8,.int .u64 (r:Int)),(9,.int .i64 ((n:Int)-1))]) (λ n o r=>[(28,28,.rw 1 (o.map AJ))]) [] [] x.length (List.replicate x.length 0) 0 (by (conv=>whnf);exact ⟨rfl,rfl,rfl⟩) ⟨by omega,by simp,HU _,by omega,by rw[List.drop_of_length_le (Nat.le_refl _),List.drop_of_length_le (by simp)];simp [val]⟩ ?_;intro n o r ⟨p1,p2,p3,p4,p5⟩ ih;rcases n with _|n
  ·rw[List.drop_zero,List.drop_zero]at p5
   have hq:X/Y=val o/\X%Y=r:=by
    rw[<-v1,<-p5];have e1:(val o*Y+r)/Y=val o:=by
     rw[Nat.mul_comm,Nat.mul_add_div (by omega),Nat.div_eq_of_lt p4,Nat.add_zero]
    have e2:(val o*Y+r)%Y=r:=by
     rw[Nat.mul_comm,Nat.mul_add_mod,Nat.mod_eq_of_lt p4]
    exact ⟨e1,e2⟩
   rw[hq.1,hq.2,<-p2];clear ih hq p5;have fk:=ED p3;have bg:AX [r]:=GL (by omega);have eu:=ED bg;have Bk:val [r]=r:=by simp [val]
   have Gw:[r].length=1:=rfl;(repeat' ((first|(apply AH<;>intro hc<;>try (exfalso;omega))|(apply DU;omega)|apply AE|refine S4 N (by assumption) (by omega) rfl (by first|rfl|omega|assumption) ?_)<;>conv=>whnf))
   refine GX (enc:=AJ) (λ_=>rfl) (by omega) ?_;(conv=>whnf)
   refine GX (enc:=AJ) (l:=[r]) (λ_=>rfl) (by omega) ?_;(conv=>whnf)
   refine AU ?_ (RJ _ _);rw[List.drop_zero,List.drop_zero,SY p3,SY bg,Bk]
  ·have e1:((n+1:Nat):Int)-1=n:=by omega
   rw[e1];obtain ⟨d,hd⟩ : ∃ d,x[n]? = some d:=⟨_,zE (by omega)⟩;have w3:=d1.at hd;have Ts:Y<4294967296:=wu;have hR:r*4294967296+d<Y*4294967296:=by omega
   have ql:(r*4294967296+d)/Y<4294967296:=(Nat.div_lt_iff_lt_mul (by omega)).2 (by omega);(repeat' ((first|(apply AH<;>intro hc<;>try (exfalso;omega))|(apply A9;omega)|(apply L7;omega)|(apply MT;omega)|(apply TB;omega;omega)|(apply B5;omega)|(apply DU;omega)|(refine BJ (by assumption) ?_ rfl ?_;omega)|apply AE)<;>conv=>whnf))
   obtain ⟨t,ht⟩ : ∃ t,t=r*4294967296+d:=⟨_,rfl⟩;rw[<-ht]at hR ql ⊢;have hm:t%Y<Y:=Nat.mod_lt _ (by omega);have k6:=Kz p5 ht;rw[<-GE hd]at k6;clear ht;skip
   refine EQ (by omega) ?_;(conv=>whnf)
   (repeat' ((first|(apply BX;omega)|(apply Q7;omega)|(apply B5;omega)|(refine BJ (by assumption) ?_ rfl ?_;omega))<;>conv=>whnf))
   generalize t/Y=tq at *;generalize t%Y=tr at *;refine B0 [] (by (conv=>whnf);exact ⟨rfl,rfl,rfl⟩) (ih n _ _ (by omega) ⟨by omega,by simpa using p2,p3.set _ (by omega),hm,?_⟩);rw[GE (l:=o.set n tq) (d:=tq) (by rw[List.getElem?_set_self (by omega)]),List.drop_set_of_lt (by omega)];exact k6
 ·-- two digits or more
  have Dr:2<=(dg Y).length:=by omega
  obtain ⟨yt,ot,qw⟩:=W3 hY;have ou:=d2.at ot;obtain ⟨b1,b2,b3,b4⟩:=YW qw ou;have zd:=fD N yt ou;generalize hs:32-m9 yt=s at *;have ah:s<=31:=by omega
  generalize dg Y=y at *;generalize hx:dg X=x at *;have e1:((y.length:Int)-1).toNat=y.length-1:=by omega
  rw[<-e1]at ot;obtain ⟨rv,Gz,v,hV,mu,Ee⟩:=wU N y q2 s y.length d2 ah (by omega) (by omega);subst Ee;(repeat' ((first|(apply AH<;>intro hc<;>try (exfalso;omega))|(apply AZ;omega)|(apply BX;omega)|apply AW|apply AE|refine AD (k7 _ _) ?_)<;>conv=>whnf))
  refine FF (enc:=AJ) 0 (x.length-y.length+1) rfl (by omega) (by omega) ?_;(conv=>whnf)
  (repeat' ((first|(apply AH<;>intro hc<;>try (exfalso;omega))|(apply AZ;omega)|(apply BX;omega)|(apply B5;omega)|apply AW|(refine BJ (by assumption) ?_ rfl ?_;omega)|refine AD (zd) ?_)<;>conv=>whnf))
  refine G7 1000 N.H8 rfl rfl ?_;(repeat' (apply AE<;>conv=>whnf))
  refine FF (enc:=AJ) 0 (x.length+1) rfl (by omega) (by omega) ?_;(conv=>whnf)
  (repeat' (apply AW<;>conv=>whnf))
  have mq:=SI (s:=s) (by omega);refine FN (λ i _ _=>x.length-i) (λ(i:Nat) (o:List Nat) (lo:Nat)=>i<=x.length/\o.length=x.length+1/\AX o/\lo<2^s/\val (o.take i)+4294967296^i*lo=val (x.take i)*2^s) (λ i o lo=>[(8,.int .u32 (lo:Int)),(15,.int .i64 i)]) (λ i o lo=>[(71012,71012,.rw 1 (o.map AJ))]) [] [] 0 (List.replicate (x.length+1) 0) 0 (by (conv=>whnf);exact ⟨rfl,rfl,rfl⟩) ⟨by omega,by simp,HU _,Nat.two_pow_pos s,by simp [val]⟩ ?_;intro i o lo ⟨p1,p2,p3,p4,p5⟩ ih;by_cases hi:i<x.length
  ·obtain ⟨d,hd⟩ : ∃ d,x[i]? = some d:=⟨_,zE hi⟩
   have w3:=d1.at hd;obtain ⟨f1,f2,f3,f4⟩:=PO (s:=s) w3 (by omega);(repeat' ((first|(apply AH<;>intro hc<;>try (exfalso;omega))|(refine BJ (by assumption) ?_ rfl ?_;omega)|apply AE)<;>conv=>whnf))
   refine bL (by omega) ?_;(conv=>whnf)
   skip
   refine WA s f1 p4 (by omega) ?_;(conv=>whnf)
   (repeat' ((first|(apply A9;omega)|fail)<;>conv=>whnf))
   refine EQ (by omega) ?_;(conv=>whnf)
   (repeat' ((first|(apply B5;omega)|fail)<;>conv=>whnf))
   refine MV (by omega) f4 ?_;(conv=>whnf)
   (repeat' ((first|(apply AZ;omega)|apply ET|(apply DU;omega))<;>conv=>whnf))
   rw[<-PN];refine B0 [] (by (conv=>whnf);exact ⟨rfl,rfl,rfl⟩) (ih (i+1) _ _ (by omega) ⟨by omega,by simpa using p2,p3.set _ (by omega),f2,?_⟩);rw[E9 (by omega),DJ hd,Nat.pow_succ];exact jB p5
  obtain rfl:i=x.length:=by omega
  clear ih;(repeat' ((first|(apply AH<;>intro hc<;>try (exfalso;omega))|(apply A9;omega)|apply AW|apply AE)<;>conv=>whnf))
  refine EQ (by omega) ?_;(conv=>whnf)
  skip
  have hU:=jA p3 (by omega) p2 p5;have vn:(o.set x.length lo).length=x.length+1:=by simpa using p2
  clear p3 p4 p5 p2;generalize o.set x.length lo=u at *;refine ⟨rfl,_,rfl,?_⟩;(conv=>whnf)
  (repeat' ((first|(apply BX;omega)|apply AW|refine AD (Gz) ?_)<;>conv=>whnf))
  have Ez:y[y.length-1]? = some yt:=by rw[<-e1];exact ot
  obtain ⟨n1,n2⟩:=YQ d2 Ez (by omega) ah b3 b4;have Ay:val v=Y*2^s:=by rw[<-v2];exact hV.2.2 (by rw[mu];exact n1)
  have Ax:val u=X*2^s:=by
   rw[<-v1];refine hU.2.2 ?_;have h3:=EJ d1;rw[vn,Nat.pow_succ];exact Nat.lt_of_lt_of_le (Nat.mul_lt_mul_of_pos_right h3 (Nat.two_pow_pos s)) (Nat.mul_le_mul_left _ mq)
  have bp:=hV.1;have Av:=hU.1;have tu:=EJ bp;rw[v2,<-Ay]at n2;rw[<-mu]at n2;clear hV hU k7 Gz zd;have ck:2<=v.length:=by omega
  have Ue:v.length<=x.length:=by omega
  have om:v.length<=549755813888:=by omega
  have Uf:x.length<=549755813888:=by omega
  have hX:X<4294967296^x.length:=by rw[<-v1];exact EJ d1
  rw[<-mu];generalize hm:x.length-v.length+1=m at *;have v3:0<val v:=by
   have:=kL (v.length-1)
   omega
  have fp:val (u.drop m)<val v:=by
   have h1:=IJ u m (by omega);rw[Ax]at h1;have h2:X*2^s<4294967296^x.length*2147483648:=Nat.lt_of_lt_of_le (Nat.mul_lt_mul_of_pos_right hX (Nat.two_pow_pos s)) (Nat.mul_le_mul_left _ (Nat.pow_le_pow_right (by omega) ah));have h3:4294967296^x.length=4294967296^m*4294967296^(v.length-1):=by rw[<-Nat.pow_add];congr 1;omega
   rw[h3,Nat.mul_assoc]at h2;refine Nat.lt_of_lt_of_le ?_ n2;refine Nat.lt_of_mul_lt_mul_left (a:=4294967296^m) ?_;omega
  have e2:(x.length:Int)-v.length=((m:Nat):Int)-1:=by omega
  rw[e2];refine FN (λ n _ _=>n) (λ(n:Nat) (o w:List Nat)=>n<=m/\o.length=x.length+1/\AX o/\w.length=m/\AX w/\val (o.drop n)<val v/\X*2^s=val (o.take n)+4294967296^n*(val (w.drop n)*val v+val (o.drop n))) (λ n o w=>[(14,.int .i64 ((n:Int)-1))]) (λ n o w=>[(71012,71012,.rw 1 (o.map AJ)),(28,28,.rw 1 (w.map AJ))]) [] [] m u (List.replicate m 0) (by (conv=>whnf);exact ⟨rfl,rfl,rfl⟩) ⟨by omega,vn,Av,by simp,HU _,fp,by rw[<-Ax,List.drop_of_length_le (show (List.replicate m 0).length<=m by simp),HP,Nat.zero_mul,Nat.zero_add];exact IJ u m (by omega)⟩ ?_;intro n o w ⟨p1,p2,p3,p4,p5,p6,p7⟩ ih;rcases n with _|j
  ·clear ih
   rw[List.drop_zero]at p6;rw[List.take_zero,List.drop_zero,List.drop_zero,HP,Nat.zero_add,Nat.pow_zero,Nat.one_mul]at p7;have jm:val o=val (o.take v.length):=by
    have h1:=PV o v.length;rcases Nat.eq_zero_or_pos (val (o.drop v.length)) with h2|h2
    ·rw[h2,Nat.mul_zero,Nat.add_zero]at h1;exact h1
    ·have h3:4294967296^v.length*1<=4294967296^v.length*val (o.drop v.length):=Nat.mul_le_mul_left _ h2
     omega
   have qh:X/Y=val w/\X%Y=val o/2^s:=by
    obtain ⟨z1,z2⟩:=dS (X:=X) (Y:=Y) (Nat.two_pow_pos s);rw[<-z1,<-z2,<-Ay,p7];have e1:(val w*val v+val o)/val v=val w:=by
     rw[Nat.mul_comm,Nat.mul_add_div v3,Nat.div_eq_of_lt p6,Nat.add_zero]
    have e2:(val w*val v+val o)%val v=val o:=by
     rw[Nat.mul_comm,Nat.mul_add_mod,Nat.mod_eq_of_lt p6]
    rw[e1,e2];exact ⟨rfl,rfl⟩
   rw[qh.1,qh.2];have fk:=ED p5;obtain ⟨ro,zt,o2,k1,k2,k3,k4⟩:=wV N (o.take v.length) true s (p3.take _) ah (by rw[List.length_take];omega);subst k4;rw[jm,<-k3];have eu:=ED k1;rw[List.length_take]at k2;clear p7 qh fp;(repeat' ((first|(apply AH<;>intro hc<;>try (exfalso;omega))|apply AE|refine S4 N (by assumption) (by omega) rfl (by first|rfl|omega|assumption) ?_)<;>conv=>whnf))
   refine GF v.length rfl (by omega) ?_;(conv=>whnf)
   refine GX (enc:=AJ) (λ_=>rfl) (by omega) ?_;(conv=>whnf)
   rw[List.drop_zero,Nat.sub_zero];(repeat' ((first|refine AD (zt) ?_|refine IO (I0 N o2 _ k1 (by omega)) ?_)<;>conv=>whnf))
   refine GX (enc:=AJ) (λ_=>rfl) (by omega) ?_;(conv=>whnf)
   refine AU ?_ (RJ _ _);rw[List.drop_zero,SY p5]
  ·have e3:((j+1:Nat):Int)-1=j:=by omega
   rw[e3];have e4:(v.length:Int).toNat=v.length:=by omega
   obtain ⟨A,W,C,hA,hW,rfl⟩:=eJ o j (v.length+1) (by omega);obtain ⟨g1,g2,g3⟩:=eL hA hW p3 p6 tu;obtain ⟨D1,D2,D3⟩:=dP p3;have pg:val W/val v<4294967296:=(Nat.div_lt_iff_lt_mul v3).2 g2;have Cr:val W=val W/val v*val v+val W%val v:=by rw[Nat.mul_comm];exact (Nat.div_add_mod _ _).symm
   have tv:val W%val v<val v:=Nat.mod_lt _ v3;have tp:X*2^s=val A+4294967296^j*val W+4294967296^j*4294967296*(val (w.drop (j+1))*val v):=by
    rw[p7,Nat.mul_add,<-g3,Nat.pow_succ];omega
   have kf:=eK tp Cr;have jo : ∀ q',q'=val W/val v->val ((w.set j q').drop j)=val W/val v+4294967296*val (w.drop (j+1)):=λ q' h=>by
    rw[GE (l:=w.set j q') (d:=q') (by rw[List.getElem?_set_self (by omega)]),List.drop_set_of_lt (by omega),h]
   have hlen : ∀ W':List Nat,W'.length=v.length+1->(A++W'++C).length=x.length+1:=λ W' h=>by
    rw[<-p2];simp [h,hW]
   (repeat' ((first|(apply AH<;>intro hc<;>try (exfalso;omega))|(apply AZ;omega)|(apply I4;omega)|apply AE)<;>conv=>whnf))
   rw[show ((j:Int)+v.length+1).toNat-(j:Int).toNat=v.length+1 by omega,show 0+(j:Int).toNat=j by omega];refine tJ N hA hW D2 bp ck om v3 n2 g2 (λ W' o' q' z1 z2 z3 z4 => ?_) (λ W' o' q' z1 z2 z3 z4 => ?_)
   ·(conv=>whnf)
    (repeat' ((first|(apply A9;omega)|fail)<;>conv=>whnf))
    refine EQ (by omega) ?_;(conv=>whnf)
    (repeat' ((first|(apply BX;omega)|fail)<;>conv=>whnf))
    obtain ⟨t1,t2⟩:=XF (A:=A) (W:=W') (C:=C) (j:=j) hA g1;refine B0 [] (by (conv=>whnf);exact ⟨rfl,rfl,rfl⟩) (ih j (A++W'++C) (w.set j q') (by omega) ⟨by omega,hlen W' z1,(D1.append z2).append D3,by simpa using p4,p5.set _ (by omega),by omega,?_⟩);rw[t1,t2,jo q' z4,z3];exact kf
   ·(conv=>whnf)
    (repeat' ((first|(apply A9;omega)|fail)<;>conv=>whnf))
    refine EQ (by omega) ?_;(conv=>whnf)
    (repeat' ((first|(apply BX;omega)|fail)<;>conv=>whnf))
    obtain ⟨t1,t2⟩:=XF (A:=A) (W:=W') (C:=C) (j:=j) hA g1;refine B0 [] (by (conv=>whnf);exact ⟨rfl,rfl,rfl⟩) (ih j (A++W'++C) (w.set j q') (by omega) ⟨by omega,hlen W' z1,(D1.append z2).append D3,by simpa using p4,p5.set _ (by omega),by omega,?_⟩);rw[t1,t2,jo q' z4,z3];exact kf
end Go.c4
namespace Go.c4
open F
attribute [local irreducible] AA AF AR AB B7 AQ AY A7 A6 BS AP BO BW C0 BL A0 BH BZ AC A4 AL pw CD B2 CH CX CS CK CI BI B8
set_option maxHeartbeats 4000000
variable {L:Lib}
theorem bM {k':IntKind} {a:Int} {K:AV->Prop} (hk:K (.int .i64 (a/4294967296))):AB .shr .i64 a k' 32 K:=by
 refine pB (by omega) ?_;have:pw 32=4294967296:=by decide +kernel
 rw[this];exact hk
theorem aW {t:Int} {K:Int->Prop} (hk:K (RL t:Int)):AQ .u32 t K:=by
 unfold AQ;rw[IntKind.wrap_u32,<-WS];exact hk
section
variable {k':IntKind} {a b:Nat} {K:AV->Prop}
theorem pA {i:Nat} (hi:i<2) (ha:a<4294967296) (hk:K (.int .u64 ((a*4294967296^i:Nat):Int))):AB .shl .u64 (a:Int) k' (32*(i:Int)) K:=by
 rcases i with _|_|i
 ·exact MV (s:=0) (by omega) (by omega) hk
 ·exact MV (s:=32) (by omega) (by omega) hk
 ·omega
end
theorem iN {x y M N:Int} (hx : -M<=x/\x<=M) (hy : -N<=y/\y<=N) : -(M*N)<=x*y/\x*y<=M*N:=by
 have h1:x.natAbs<=M.natAbs:=by omega
 have h2:y.natAbs<=N.natAbs:=by omega
 have h3:=Nat.mul_le_mul h1 h2;rw[<-Int.natAbs_mul,<-Int.natAbs_mul]at h3;have h4:0<=M*N:=Int.mul_nonneg (by omega) (by omega);omega
theorem XP (N:c5 L) (a b:List Nat) (q1 q2:Bool) (hA:AX a) (hB:AX b) (la:a.length<=549755813888) (lb:b.length<=549755813888) (h0:val b≠0) :
  Ev L 75 [.sl q1 (a.map AJ),.sl q2 (b.map AJ)] (.j4 [.sl false ((dg (val a/val b)).map AJ),.sl false ((dg (val a%val b)).map AJ),.int .i64 0]):=by
 have l1:=ED hA;have l2:=ED hB;have hp:=RP h0;refine Ev.x N.JT rfl rfl ?_;(repeat' ((first|(apply AH<;>intro hc<;>try (exfalso;omega))|apply AW|apply AE|refine IO (I0 N a _ hA (by omega)) ?_|refine IO (I0 N b _ hB (by omega)) ?_|refine AD (XR N _ _ _ _ h0 (by omega) (by omega)) ?_)<;>conv=>whnf))
 refine AU rfl ?_;simp only[A1,CM,and_true,true_and];exact ⟨CO _,CO _⟩
theorem fU (N:c5 L) (V:Nat) (q:Bool) (hl:(dg V).length<=2):Ev L 76 [.sl q ((dg V).map AJ)] (.int .u64 (V:Int)):=by
 have hV:=MF.1 hl;have hD:=DF V;have hv:=BK V;refine Ev.x N.J3 rfl rfl ?_;generalize dg V=l at *;(repeat' ((first|apply AW|apply AE)<;>conv=>whnf))
 refine FZ (λ i _=>l.length-i) (λ(i:Nat) (a:Nat)=>i<=l.length/\a=val (l.take i)) (λ i a=>[(3,.int .u64 (a:Int)),(8,.int .i64 i)]) (λ_ _=>[]) [] [] 0 0 (by (conv=>whnf);exact ⟨rfl,rfl,rfl⟩) ⟨by omega,rfl⟩ ?_;intro i a ⟨p1,p2⟩ ih;by_cases hi:i<l.length
 ·obtain ⟨d,hd⟩ : ∃ d,l[i]? = some d:=⟨_,zE hi⟩
  have w3:=hD.at hd;have h1:=DJ hd;have h2:=EJ (hD.take i);have h3:=EJ (hD.take (i+1));rw[List.length_take,Nat.min_eq_left (by omega)]at h2 h3;have h4:4294967296^(i+1)<=4294967296^2:=Nat.pow_le_pow_right (by omega) (by omega);(repeat' ((first|(apply AH<;>intro hc<;>try (exfalso;omega))|(apply DW;omega)|(apply B5;omega)|(refine BJ (by assumption) ?_ rfl ?_;omega)|apply AE)<;>conv=>whnf))
  refine pA (by omega) w3 ?_;(conv=>whnf)
  rw[Nat.mul_comm d];refine TA (32*i) (by rw[Nat.pow_mul];exact Nat.mul_mod_right _ _) (by rw[Nat.pow_mul,p2];exact h2) (by omega) ?_;(conv=>whnf)
  (repeat' ((first|(apply AZ;omega)|fail)<;>conv=>whnf))
  exact B0 [] (by (conv=>whnf);exact ⟨rfl,rfl,rfl⟩) (ih (i+1) _ (by omega) ⟨by omega,by rw[h1,p2]⟩)
 ·obtain rfl:i=l.length:=by omega
  clear ih;(repeat' ((first|(apply AH<;>intro hc<;>try (exfalso;omega))|apply AE)<;>conv=>whnf))
  rw[CU (Nat.le_refl _)]at p2;exact CR (by omega)
theorem V3 {f:Nat} {vs:List AV} {tm:Tm} {M:Mem} {K:AV->Mem->Prop} {v:AV} (h:A4 L f vs tm M (λ r M'=>r=v/\M'=M)) (hk:K v M):A4 L f vs tm M K:=by
 unfold A4 at h ⊢;intro σ own hs;obtain ⟨r,l8,σ',M',h1,h2,h3,rfl,rfl⟩:=h σ own hs;exact ⟨_,l8,σ',_,h1,h2,h3,hk⟩
theorem fS (N:c5 L) (a:List Nat) (q:Bool) (n s:Nat) (hD:AX a) (hn:3<=n) (hl:a.length<=n) (Dr:n<=549755813888) (hs:s<=31) (l6:val a*2^s<4294967296^n) :
  Ev L 78 [.sl q (a.map AJ),.int .i64 (n:Int),.int .u64 (s:Int)] (.int .i64 ((val a/QK n s:Nat):Int)):=by
 have b1:=NZ hD (n-1);have b2:=NZ hD (n-2);have b3:=NZ hD (n-3);have ns:=iU hD hn hl rfl rfl l6;have heq:=iT (s:=s) hD hn hl hs rfl rfl rfl;obtain ⟨f1,f2,f3,f4⟩:=PO (s:=s) b3 (by omega);refine Ev.x N.J0 rfl rfl ?_;(repeat' ((first|(apply A9;omega)|(apply BX;omega)|apply AE)<;>conv=>whnf))
 refine V3 (v := .int .u64 ((a.getD (n-1) 0:Nat):Int)) ?_ ?_
 ·refine G7 1000 N.HE rfl rfl ?_
  (repeat' ((first|(apply AH<;>intro hc<;>try (exfalso;omega))|(apply B5;omega)|apply AW|(refine NP (by assumption) ?_ (λ e he hb => ?_);omega)|apply AE)<;>conv=>whnf))
  ·refine ⟨rfl,_,rfl,?_,rfl⟩
   rw[show ((n:Int)-1).toNat=n-1 by omega]at he;rw[FR he];rfl
  ·refine ⟨rfl,_,rfl,?_,rfl⟩
   rw[<-N0 (show a.length<=n-1 by omega)];rfl
 (conv=>whnf)
 (repeat' ((first|(apply A9;omega)|(apply BX;omega)|(apply L7;omega))<;>conv=>whnf))
 refine V3 (v := .int .u64 ((a.getD (n-2) 0:Nat):Int)) ?_ ?_
 ·refine G7 1000 N.HE rfl rfl ?_
  (repeat' ((first|(apply AH<;>intro hc<;>try (exfalso;omega))|(apply B5;omega)|apply AW|(refine NP (by assumption) ?_ (λ e he hb => ?_);omega)|apply AE)<;>conv=>whnf))
  ·refine ⟨rfl,_,rfl,?_,rfl⟩
   rw[show ((n:Int)-2).toNat=n-2 by omega]at he;rw[FR he];rfl
  ·refine ⟨rfl,_,rfl,?_,rfl⟩
   rw[<-N0 (show a.length<=n-2 by omega)];rfl
 (conv=>whnf)
 generalize a.getD (n-1) 0=d1 at *;generalize a.getD (n-2) 0=d2 at *;(repeat' ((first|(apply MT;omega)|fail)<;>conv=>whnf))
 refine MV (by omega) ns ?_;(conv=>whnf)
 generalize hT:(d1*4294967296+d2)*2^s=T at *;(repeat' ((first|(apply A9;omega)|(apply BX;omega))<;>conv=>whnf))
 refine V3 (v := .int .u64 ((a.getD (n-3) 0:Nat):Int)) ?_ ?_
 ·refine G7 1000 N.HE rfl rfl ?_
  (repeat' ((first|(apply AH<;>intro hc<;>try (exfalso;omega))|(apply B5;omega)|apply AW|(refine NP (by assumption) ?_ (λ e he hb => ?_);omega)|apply AE)<;>conv=>whnf))
  ·refine ⟨rfl,_,rfl,?_,rfl⟩
   rw[show ((n:Int)-3).toNat=n-3 by omega]at he;rw[FR he];rfl
  ·refine ⟨rfl,_,rfl,?_,rfl⟩
   rw[<-N0 (show a.length<=n-3 by omega)];rfl
 (conv=>whnf)
 generalize a.getD (n-3) 0=d3 at *;skip
 refine MV (by omega) f4 ?_;(conv=>whnf)
 (repeat' (apply ET<;>conv=>whnf))
 rw[PN]at f2;refine bK s (by rw[<-hT];exact Nat.mul_mod_left _ _) f2 (by have:=UY (k:=d1*4294967296+d2) (show s<=64 by omega) (by omega);omega) ?_;(conv=>whnf)
 (repeat' ((first|apply oX|(apply OG;omega))<;>conv=>whnf))
 rw[heq];exact CR rfl
theorem wS (N:c5 L) (P Q:Int) (hP:0<=P/\P<=4611686018427387904) (hQ:0<=Q/\Q<=4611686018427387904) : ∃ r,Ev L 79 [.int .i64 P,.int .i64 Q] r /\ ∃ a b c d:Int,(V5 a b c d/\(-2147483647<=a/\a<=2147483647)/\(-2147483647<=b/\b<=2147483647)/\(-2147483647<=c/\c<=2147483647)/\(-2147483647<=d/\d<=2147483647))/\(b≠0->Q6 P Q a b c d)/\r = .j4 [.int .i64 a,.int .i64 b,.int .i64 c,.int .i64 d]:=by
 refine Ev.xE N.JX rfl rfl ?_;(repeat' (apply AE<;>conv=>whnf))
 refine nJ (λ_ _ _ _ _ q=>(q+2147483648).toNat) (λ(a b c d p q:Int)=>OJ P Q a b c d p q/\((-2147483647<=a/\a<=2147483647)/\(-2147483647<=b/\b<=2147483647)/\(-2147483647<=c/\c<=2147483647)/\(-2147483647<=d/\d<=2147483647))/\(p<=4611686018427387904/\q<=4611686018427387904)/\P3 P Q a b c d/\(b≠0->Q6 P Q a b c d)) (λ a b c d p q=>[(0,.int .i64 p),(1,.int .i64 q),(4,.int .i64 a),(5,.int .i64 b),(6,.int .i64 c),(7,.int .i64 d)]) (λ_ _ _ _ _ _=>[]) [] [] 1 0 0 1 P Q (by (conv=>whnf);exact ⟨rfl,rfl,rfl⟩) ⟨OJ.start hP.1 hQ.1,by omega,by omega,P3.start P Q,λ h=>absurd rfl h⟩ ?_;intro a b c d p q ⟨p1,⟨⟨p2,Ui⟩,⟨p3,Uj⟩,⟨p4,Uk⟩,⟨p5,Ul⟩⟩,⟨p6,p7⟩,p8,p9⟩ ih;have g1:=p1.pa;have g2:=p1.pb;have g3:=p1.qc;have g4:=p1.qd;by_cases cr:q+c=0
 ·(repeat' ((first|(apply AH<;>intro hc<;>try (exfalso;omega))|(apply AZ;omega)|apply AE)<;>conv=>whnf))
  refine ⟨.j4 [.int .i64 a,.int .i64 b,.int .i64 c,.int .i64 d],?_,a,b,c,d,⟨p1.sg,by omega⟩,p9,rfl⟩;(conv=>whnf)
  exact AU rfl (by simp [A1,CM])
 by_cases mi:q+d=0
 ·(repeat' ((first|(apply AH<;>intro hc<;>try (exfalso;omega))|(apply AZ;omega)|apply AE)<;>conv=>whnf))
  refine ⟨.j4 [.int .i64 a,.int .i64 b,.int .i64 c,.int .i64 d],?_,a,b,c,d,⟨p1.sg,by omega⟩,p9,rfl⟩;(conv=>whnf)
  exact AU rfl (by simp [A1,CM])
 by_cases Qi:(p+a)/(q+c)=(p+b)/(q+d)
 ·obtain ⟨s1,s2,s3,s4⟩:=p1.step cr mi rfl Qi
  have s5:=s4 p8;have s6:=s5.half;have s7:=s1.qc;by_cases ch:2147483647<(p+a)/(q+c)
  ·(repeat' ((first|(apply AH<;>intro hc<;>try (exfalso;omega))|(apply AZ;omega)|(refine NN ?_ ?_ (λ_ => ?_) (λ_ _ => ?_);omega;omega;all_goals try (exfalso;omega))|apply AE)<;>conv=>whnf))
   refine ⟨.j4 [.int .i64 a,.int .i64 b,.int .i64 c,.int .i64 d],?_,a,b,c,d,⟨p1.sg,by omega⟩,p9,rfl⟩;(conv=>whnf)
   exact AU rfl (by simp [A1,CM])
  ·have t1:=iN (x:=(p+a)/(q+c)) (y:=c) (M:=2147483647) (N:=2147483647) (by omega) (by omega)
   have t2:=iN (x:=(p+a)/(q+c)) (y:=d) (M:=2147483647) (N:=2147483647) (by omega) (by omega);(repeat' ((first|(apply AH<;>intro hc<;>try (exfalso;omega))|(apply AZ;omega)|(apply BX;omega)|(apply DW;omega)|(refine NN ?_ ?_ (λ_ => ?_) (λ_ _ => ?_);omega;omega;all_goals try (exfalso;omega))|(apply B7.neg;omega)|apply AE)<;>conv=>whnf))
   all_goals first
    | exact B0 [] (by (conv=>whnf);exact ⟨rfl,rfl,rfl⟩) (ih _ _ _ _ _ _ (by omega) ⟨s1,by omega,by omega,s6,λ_=>s5⟩)
    |(refine ⟨.j4 [.int .i64 a,.int .i64 b,.int .i64 c,.int .i64 d],?_,a,b,c,d,⟨p1.sg,by omega⟩,p9,rfl⟩
      (conv=>whnf)
      exact AU rfl (by simp [A1,CM]))
 ·(repeat' ((first|(apply AH<;>intro hc<;>try (exfalso;omega))|(apply AZ;omega)|(refine NN ?_ ?_ (λ_ => ?_) (λ_ _ => ?_);omega;omega;all_goals try (exfalso;omega))|apply AE)<;>conv=>whnf))
  refine ⟨.j4 [.int .i64 a,.int .i64 b,.int .i64 c,.int .i64 d],?_,a,b,c,d,⟨p1.sg,by omega⟩,p9,rfl⟩;(conv=>whnf)
  exact AU rfl (by simp [A1,CM])
theorem wT (N:c5 L) (x y:List Nat) (q1 q2:Bool) (f g:Int) (hX:AX x) (hY:AX y) (hl:y.length<=x.length) (lx:x.length<=549755813888) (hs:NL f g) (R:Nat) (hR:(R:Int)=f*val x+g*val y) (Tr:R<=val x) :
  Ev L 80 [.sl q1 (x.map AJ),.sl q2 (y.map AJ),.int .i64 f,.int .i64 g] (.sl false ((dg R).map AJ)):=by
 refine Ev.x N.JY rfl rfl ?_;(repeat' ((first|apply AW|apply AE)<;>conv=>whnf))
 refine FF (enc:=AJ) 0 x.length rfl rfl (by omega) ?_;(conv=>whnf)
 (repeat' (apply AW<;>conv=>whnf))
 refine FN (λ i _ _=>x.length-i) (λ(i:Nat) (o:List Nat) (c:Int)=>i<=x.length/\o.length=x.length/\AX o /\ -2147483648<=c/\c<=2147483648/\(val (o.take i):Int)+((4294967296^i:Nat):Int)*c=f*val (x.take i)+g*val (y.take i)) (λ i o c=>[(10,.int .i64 c),(19,.int .i64 i)]) (λ i o c=>[(16,16,.rw 1 (o.map AJ))]) [] [] 0 (List.replicate x.length 0) 0 (by (conv=>whnf);exact ⟨rfl,rfl,rfl⟩) ⟨by omega,by simp,HU _,by omega,by omega,by simp [val]⟩ ?_;intro i o c ⟨p1,p2,p3,p4,p5,p6⟩ ih;by_cases hi:i<x.length
 ·obtain ⟨d,hd⟩ : ∃ d,x[i]? = some d:=⟨_,zE hi⟩
  have w3:=hX.at hd;have h1:=DJ hd;by_cases hy:i<y.length
  ·obtain ⟨e,he⟩ : ∃ e,y[i]? = some e:=⟨_,zE hy⟩
   have Df:=hY.at he;have h2:=DJ he;obtain ⟨r1,r2,r3⟩:=hs.Ih w3 Df;have k6:=cX (d:=d) (e:=e) p6 rfl;(repeat' ((first|(apply AH<;>intro hc<;>try (exfalso;omega))|(apply AZ;omega)|(apply DW;omega)|(apply OG;omega)|apply AW|(refine BJ (by assumption) ?_ rfl ?_;omega)|apply AE)<;>conv=>whnf))
   generalize Rx:f * ↑d+c+g * ↑e=t at *;refine aW ?_;(conv=>whnf)
   (repeat' ((first|(apply A9;omega)|fail)<;>conv=>whnf))
   refine EQ (by omega) ?_;(conv=>whnf)
   refine bM ?_;(conv=>whnf)
   (repeat' ((first|(apply AZ;omega)|fail)<;>conv=>whnf))
   refine B0 [] (by (conv=>whnf);exact ⟨rfl,rfl,rfl⟩) (ih (i+1) _ _ (by omega) ⟨by omega,by simpa using p2,p3.set _ (cW t),by omega,by omega,?_⟩);rw[E9 (by omega),h1,h2,Nat.pow_succ];simp only[Int.natCast_add,Int.natCast_mul,WS];exact k6
  ·have h2:=VZ (y:=y) (i:=i) (by omega)
   obtain ⟨r1,r2,r3⟩:=hs.Ih (e:=0) w3 (by omega);have k6:=cX (d:=d) (e:=0) p6 rfl;rw[Int.mul_zero,Int.add_zero]at k6;have r4 : -9223372030412324865<=f*(d:Int)/\f*(d:Int)<=9223372030412324865:=r1;(repeat' ((first|(apply AH<;>intro hc<;>try (exfalso;omega))|(apply AZ;omega)|(apply DW;omega)|(apply OG;omega)|apply AW|(refine BJ (by assumption) ?_ rfl ?_;omega)|apply AE)<;>conv=>whnf))
   generalize Rx:f * ↑d+c=t at *;refine aW ?_;(conv=>whnf)
   (repeat' ((first|(apply A9;omega)|fail)<;>conv=>whnf))
   refine EQ (by omega) ?_;(conv=>whnf)
   refine bM ?_;(conv=>whnf)
   (repeat' ((first|(apply AZ;omega)|fail)<;>conv=>whnf))
   refine B0 [] (by (conv=>whnf);exact ⟨rfl,rfl,rfl⟩) (ih (i+1) _ _ (by omega) ⟨by omega,by simpa using p2,p3.set _ (cW t),by omega,by omega,?_⟩);rw[E9 (by omega),h1,h2,Nat.pow_succ];simp only[Int.natCast_add,Int.natCast_mul,WS];rw[Int.mul_zero,Int.add_zero]at k6;exact k6
 ·obtain rfl:i=x.length:=by omega
  clear ih;rw[CU (by omega),CU (Nat.le_refl _),CU (by omega)]at p6;have Gx:=EJ p3;have Ug:=EJ hX;rw[p2]at Gx;have Po:val o=R:=by
   have:=rX Gx p6 (by omega) (by omega)
   omega
  have fk:=ED p3;rw[<-p2,<-Po];(repeat' ((first|(apply AH<;>intro hc<;>try (exfalso;omega))|apply AE|refine S4 N (by assumption) (by omega) rfl (by first|rfl|omega|assumption) ?_)<;>conv=>whnf))
  refine GX (enc:=AJ) (λ_=>rfl) (by omega) ?_;(conv=>whnf)
  refine AU ?_ (by simp only[A1,true_and];exact CO _);rw[List.drop_zero,SY p3]
theorem wW (N:c5 L) (X Y:Nat) (nk:Y<=X) (hy:3<=(dg Y).length) (lx:(dg X).length<=549755813888) : ∃ r,Ev L 81 [.sl false ((dg X).map AJ),.sl false ((dg Y).map AJ)] r /\ ∃ A B:Nat,(B<Y/\B<=A/\A<=X/\Nat.gcd A B=Nat.gcd X Y)/\r = .j4 [.sl false ((dg A).map AJ),.sl false ((dg B).map AJ)]:=by
 have Pr:Y≠0:=λ h=>by rw[h,EH]at hy;simp at hy
 have qh:X≠0:=by omega
 have hlen:=NW nk;have Qe:=λ q q'=>XR N X Y q q' Pr lx (by omega)
 have d1:=DF X;have d2:=DF Y;have v1:=BK X;have v2:=BK Y;obtain ⟨xt,Eu,Ew⟩:=W3 qh;have Ae:=d1.at Eu;obtain ⟨b1,b2,b3,b4⟩:=YW Ew Ae;have zd:=fD N xt Ae;generalize hs:32-m9 xt=s at *;have ah:s<=31:=by omega
 obtain ⟨n1,n2⟩:=YQ d1 Eu (by omega) ah b3 b4;have kg:=λ(f g:Int) (R:Nat) (hs:NL f g) (h1:(R:Int)=f*val (dg X)+g*val (dg Y)) (h2:R<=val (dg X)) (q q':Bool)=>wT N (dg X) (dg Y) q q' f g d1 d2 (by omega) lx hs R h1 h2
 have n3:val (dg Y)*2^s<4294967296^(dg X).length:=Nat.lt_of_le_of_lt (Nat.mul_le_mul_right _ (by omega)) n1;have fk:=λ q=>fS N (dg X) q (dg X).length s d1 (by omega) (by omega) lx ah n1
 have eu:=λ q=>fS N (dg Y) q (dg X).length s d2 (by omega) (by omega) lx ah n3
 have hK:=Jg (dg X).length s;obtain ⟨e1,x1,x2,x3⟩:=iW (V:=X) hK;obtain ⟨e2,y1,y2,y3⟩:=iW (V:=Y) hK;rw[v1]at fk;rw[v2]at eu;have sc:=iV d1 (n:=(dg X).length) (by omega) (by omega) ah n1;have wm:=iV d2 (n:=(dg X).length) (by omega) (by omega) ah n3;rw[v1]at sc;rw[v2]at wm;generalize QK (dg X).length s=K at *;generalize X/K=P at *;generalize Y/K=Q at *;rw[v1,v2]at kg;obtain ⟨rc,wo,a,b,c,d,⟨z1,z2,z3,z4,z5⟩,z6,rfl⟩:=wS N (P:Int) (Q:Int) (by omega) (by omega);have e1:(((dg X).length:Int)-1).toNat=(dg X).length-1:=by omega
 rw[<-e1]at Eu;refine Ev.xE N.J2 rfl rfl ?_;by_cases hb:b=0
 ·(repeat' ((first|(apply AH<;>intro hc<;>try (exfalso;omega))|(apply BX;omega)|(apply B5;omega)|apply AW|(refine BJ (by assumption) ?_ rfl ?_;omega)|apply AE|refine AD (zd) ?_|refine AD (fk _) ?_|refine AD (eu _) ?_|refine AD (wo) ?_|refine AD (Qe _ _) ?_)<;>conv=>whnf))
  refine ⟨_,?_,Y,X%Y,⟨Nat.mod_lt _ (by omega),Nat.le_of_lt (Nat.mod_lt _ (by omega)),nk,R4 X Y⟩,rfl⟩;(conv=>whnf)
  exact AU rfl (RJ _ _)
 ·obtain ⟨g1,g2,g3,g4⟩:=z6 hb (X:Int) (Y:Int) (K:Int) _ _ (by omega) x1 y1 x2 x3 y2 y3
  obtain ⟨A,hA⟩:=Int.eq_ofNat_of_zero_le (show 0<=a*X+b*Y by omega);obtain ⟨B,hB⟩:=Int.eq_ofNat_of_zero_le g1;have s1:NL a b:=by rcases z1 with ⟨h1,h2,h3,h4⟩|⟨h1,h2,h3,h4⟩<;>unfold NL<;>omega
  have s2:NL c d:=by rcases z1 with ⟨h1,h2,h3,h4⟩|⟨h1,h2,h3,h4⟩<;>unfold NL<;>omega
  (repeat' ((first|(apply AH<;>intro hc<;>try (exfalso;omega))|(apply BX;omega)|(apply B5;omega)|apply AW|(refine BJ (by assumption) ?_ rfl ?_;omega)|apply AE|refine AD (zd) ?_|refine AD (fk _) ?_|refine AD (eu _) ?_|refine AD (wo) ?_|refine AD (kg a b A s1 hA.symm (by omega) _ _) ?_|refine AD (kg c d B s2 hB.symm (by omega) _ _) ?_)<;>conv=>whnf))
  rw[hA,hB]at g4;rw[hA,hB]at g2;refine ⟨_,?_,A,B,⟨by omega,by omega,by omega,by simpa using g4⟩,rfl⟩;(conv=>whnf)
  exact AU rfl (RJ _ _)
theorem iA (N:c5 L) (X Y:Nat) (nk:Y<=X) (lx:(dg X).length<=549755813888) :
 AA L [It.lp FU.l1,It.c9 0,
   It.code
    ((((BA.ops FU.r6 false).dr [23,30,31] []).seq
       (BA.cond 32 (((BA.ops FU.r7 false).dr [5,6,32,33] []).seq BA.ret) BA.skip)).seq
     (((BA.ops FU.r8 false).dr [5,7,32,34,35,36,37,38,39] []).seq
      (((BA.ops FU.r9 false).dr [6,8,40,41,42,43] []).seq
       ((BA.block 2 FU.l2.loop).seq
        (((BA.ops FU.v7 false).dr [9,10,45,50,51,52,53,54,55,56] []).seq BA.ret)))))]
  [(6,AV.sl false (List.map AJ (dg Y))),(5,AV.sl false (List.map AJ (dg X)))] []
  (NQ FU (AV.sl false (List.map AJ (dg (X.gcd Y))))):=by
 refine FZ (λ_ y=>y) (λ(x y:Nat)=>y<=x/\(dg x).length<=549755813888/\Nat.gcd x y=Nat.gcd X Y) (λ x y=>[(6,AV.sl false (List.map AJ (dg y))),(5,AV.sl false (List.map AJ (dg x)))]) (λ_ _=>[]) [] [] X Y (by (conv=>whnf);exact ⟨rfl,rfl,rfl⟩) ⟨nk,lx,rfl⟩ ?_;intro x y ⟨p1,p2,p3⟩ ih;rw[<-p3]at ih ⊢;generalize Nat.gcd X Y=G at *;clear nk lx;subst p3;have hlen:=NW p1;by_cases h3:3<=(dg y).length
 ·obtain ⟨r,hr,A,B,⟨k1,k2,k3,k4⟩,rfl⟩:=wW N x y p1 h3 p2
  have k5:=NW k3;(repeat' ((first|(apply AH<;>intro hc<;>try (exfalso;omega))|apply AW|apply AE|refine AD (hr) ?_)<;>conv=>whnf))
  exact BQ [] (ih A B k1 ⟨k2,by omega,k4⟩)
 ·clear ih
  by_cases h0:y=0
  ·subst h0
   have mn:(dg 0).length=0:=by rw[EH];rfl
   (repeat' ((first|(apply AH<;>intro hc<;>try (exfalso;omega))|apply AW|apply AE)<;>conv=>whnf))
   rw[Nat.gcd_zero_right];exact AU rfl (by simp only[A1,true_and];exact CO _)
  ·have hp:=RP h0
   have hm:=NW (Nat.le_of_lt (Nat.mod_lt x (show y>0 by omega)));have hd:=λ q q'=>XR N x y q q' h0 p2 (by omega)
   have Bi:=λ q=>fU N y q (by omega)
   have lv:=λ q=>fU N (x%y) q (by omega)
   have hb:y<18446744073709551616:=MF.1 (show (dg y).length<=2 by omega);have pe:x%y<y:=Nat.mod_lt _ (by omega);rw[<-R4 x y];(repeat' ((first|(apply AH<;>intro hc<;>try (exfalso;omega))|apply AW|apply AE|refine AD (hd _ _) ?_|refine AD (Bi _) ?_|refine AD (lv _) ?_)<;>conv=>whnf))
   refine FZ (λ_ q=>q) (λ(p q:Nat)=>p<18446744073709551616/\q<18446744073709551616/\Nat.gcd p q=Nat.gcd y (x%y)) (λ p q=>[(9,.int .u64 (p:Int)),(10,.int .u64 (q:Int))]) (λ_ _=>[]) [] [] y (x%y) (by (conv=>whnf);exact ⟨rfl,rfl,rfl⟩) ⟨hb,by omega,rfl⟩ ?_;intro p q ⟨g1,g2,g3⟩ ih;rw[<-g3]at ih ⊢;by_cases hq:q=0
   ·subst hq
    clear ih;obtain ⟨v1,v2⟩:=W0 g1;rw[Nat.gcd_zero_right];have fk:=ED v2;have ht:=SY v2;rw[v1]at fk ht;(repeat' ((first|(apply AH<;>intro hc<;>try (exfalso;omega))|apply ET|(apply DU;omega)|apply E2|apply AE)<;>conv=>whnf))
    generalize p%4294967296=lo at *;generalize p/4294967296=hi at *;refine S4 N v2 (by simp) rfl rfl ?_;rw[v1];(conv=>whnf)
    skip
    refine GX (enc:=AJ) (l:=[lo,hi]) (λ_=>rfl) (by omega) ?_;(conv=>whnf)
    refine AU ?_ (by simp only[A1,true_and];exact CO _);rw[List.drop_zero,ht]
   ·have Rn:p%q<q:=Nat.mod_lt _ (by omega)
    (repeat' ((first|(apply AH<;>intro hc<;>try (exfalso;omega))|(apply Q7;omega)|apply AE)<;>conv=>whnf))
    exact BQ [] (ih q (p%q) Rn ⟨g2,by omega,R4 p q⟩)
theorem wR (N:c5 L) (a b:List Nat) (q1 q2:Bool) (hA:AX a) (hB:AX b) (la:a.length<=549755813888) (lb:b.length<=549755813888) :
  Ev L 82 [.sl q1 (a.map AJ),.sl q2 (b.map AJ)] (.sl false ((dg (Nat.gcd (val a) (val b))).map AJ)):=by
 have t1:=λ q=>RT N a q hA (by omega)
 have t2:=λ q=>RT N b q hB (by omega)
 have l1:=ED hA;have l2:=ED hB;have k7:=λ q q'=>M7 N (dg (val a)) (dg (val b)) q q' (DF _) (DF _) (by omega) (by omega)
 rw[BK,BK]at k7;generalize val a=X at *;generalize val b=Y at *;refine Ev.x N.FU rfl rfl ?_;by_cases l6:X<Y
 ·have hn:CT X Y = -1:=(HC (by omega)).symm
  rw[hn]at k7;(repeat' ((first|(apply AH<;>intro hc<;>try (exfalso;omega))|apply AE|refine AD (t1 _) ?_|refine AD (t2 _) ?_|refine AD (k7 _ _) ?_)<;>conv=>whnf))
  rw[Nat.gcd_comm];exact B0 [] (by (conv=>whnf);exact ⟨rfl,rfl,rfl⟩) (iA N Y X (by omega) (by omega))
 ·have gu:0<=CT X Y:=by unfold CT;split<;>(try split)<;>omega
  generalize CT X Y=cm at *;(repeat' ((first|(apply AH<;>intro hc<;>try (exfalso;omega))|apply AE|refine AD (t1 _) ?_|refine AD (t2 _) ?_|refine AD (k7 _ _) ?_)<;>conv=>whnf))
  exact B0 [] (by (conv=>whnf);exact ⟨rfl,rfl,rfl⟩) (iA N X Y (by omega) (by omega))
end Go.c4

namespace Go.c4
def QS (N:Nat):List H1->Bool
 | []=>true
 | .tmp t::r=>Nat.blt t N&&QS N r
 | .cell t _ _::r=>Nat.blt t N&&QS N r
theorem ZO {N:Nat} {s s':St} (ho:s.own=s'.own) (iv : ∀ j,j<N->e9 s'.tm j=e9 s.tm j) : ∀ {res:List H1},QS N res=true->res.mapM (EN s)=res.mapM (EN s')
 | [],_=>rfl
 | .tmp t::r,h=>by
  simp only[QS,Bool.and_eq_true]at h;have:=ZO ho iv h.2
  simp only[List.mapM_cons,EN,iv t (OQ.1 h.1),this]
 | .cell t agg n::r,h=>by
  simp only[QS,Bool.and_eq_true]at h;have:=ZO ho iv h.2
  simp only[List.mapM_cons,EN,iv t (OQ.1 h.1),this,ho]
def pJ (N:Nat) (fn:AFn) (tm:Tm) (K:AV->Mem->Prop) (v9:Tm) (M':Mem):Prop:=gh N v9=tm/\U9 v9 M' fn.res (λ rs=>Ii rs λ v=>K v M')
theorem EP {L:Lib} {f:Nat} {fn:AFn} {vs:List AV} {tm:Tm} {M:Mem} {K:AV->Mem->Prop} (N:Nat) (hL:L f=some fn) (hp:Nat.beq vs.length fn.v8=true) (hN:(Nat.ble fn.v8 N&&(HA N fn.body&&QS N fn.res))=true)
  (h:AA L [.code fn.body] (CB 0 vs++FL N tm) M (pJ N fn tm K)):A4 L f vs tm M K:=by
 intro σ own hs;simp only[Bool.and_eq_true]at hN;obtain ⟨n1,n2,n3⟩:=hN;have n1:=Nat.le_of_ble_eq_true n1;have hp:vs.length=fn.v8:=Nat.eq_of_beq_eq_true hp;have Ef:RX σ (CB 0 vs++FL N tm) M ⟨JM (A8 σ) (CB 0 vs++FL N tm),own⟩:=⟨λ j=>Or.inr (by rw[IH];exact II (I2 σ) j _),hs⟩;obtain ⟨n,c,s',hr,σ',v9,M',hR,hg,jn⟩:=h σ _ Ef;have Di:Gh N (JM (A8 σ) (FL N tm)) (CB 0 (vs.map (A8 σ))) (JM (A8 σ) (CB 0 vs++FL N tm)):=by
  constructor
  ·intro j hj
   rw[YL,II (I2 σ),II (I2 σ)];rcases S0 j (FL N tm) (CB 0 vs) with ⟨_,e⟩|⟨hn,e⟩
   ·rw[e]
   ·rw[e,aK hj,aI j 0 vs hn]
  ·intro j hj
   rw[II (I2 σ),II (I2 σ)];rcases S0 j (FL N tm) (CB 0 vs) with ⟨hn,e⟩|⟨_,e⟩
   ·have:=YK j 0 vs hn
    omega
   ·rw[e]
 obtain ⟨s,r1,r2,r3⟩:=HL n (by simp [N1,n2]) Di hr;obtain ⟨rs,i1,i2,i3⟩:=ZN hR jn;rw[<-ZO (s:=s) r2.symm r3.lo n3,i3]at i1;have key : ∃ r,G1 (rs.map (BM σ'))=A8 σ' r/\K r M':=by
  match rs,i2,i3 with
  | [],h,_=>exact ⟨.j4 [],rfl,h⟩
  | [v],h,e =>
   simp only[List.map_cons,List.map_nil,List.cons.injEq,and_true]at e;exact ⟨v,by simp only[List.map_cons,List.map_nil,G1];exact e.symm,h⟩
  | a::b::l,h,_=>exact ⟨.j4 (a::b::l),rfl,h⟩
 obtain ⟨r,k1,k2⟩:=key;refine ⟨r,s.own,σ',M',FP.intro hL (by simpa using hp) ⟨n,c,s,r1,?_,rfl⟩,?_,?_,k2⟩
 ·rw[i1,Option.map_some,k1]
 ·rw[<-r2];exact hR.sat
 ·intro j
  have e1:tg tm j=tg v9 (N+j):=by rw[IH,IH,<-hg,aH]
  rcases hR.tm (N+j) with e|e
  ·rw[e1,e];rfl
  ·rw[e1,<-e,r3.hi (N+j) (by omega),II (I2 σ),aJ,<-IH,e1]
end Go.c4

namespace Go.c4
open F
attribute [local irreducible] AA AF AR AB B7 AQ AY A7 A6 BS AP BO BW C0 BL A0 BH BZ AC A4 AL pw CD B2 CH CX CS CK CI BI B8
variable {L:Lib}
set_option maxHeartbeats 8000000
theorem oO {k:Nat} {K:Int->Prop} (h:0<k/\k<=9223372036854775808) (hk:K ((18446744073709551616-k:Nat):Int)):AQ .u64 (-(k:Int)) K:=by
 unfold AQ;have e:IntKind.u64.wrap (-(k:Int))=((18446744073709551616-k:Nat):Int):=by
  simp [IntKind.wrap,IntKind.bits,IntKind.signed];omega
 rw[e];exact hk
theorem B7.Ak {k:Nat} {K:AV->Prop} (h:0<k/\k<=9223372036854775808) (hk:K (.int .u64 (k:Int))):B7 .neg .u64 ((18446744073709551616-k:Nat):Int) K:=by
 refine B7.go (v := .int .u64 (IntKind.u64.wrap (0-((18446744073709551616-k:Nat):Int)))) rfl ?_;have e:IntKind.u64.wrap (0-((18446744073709551616-k:Nat):Int))=(k:Int):=by
  simp [IntKind.wrap,IntKind.bits,IntKind.signed];omega
 rw[e];exact hk
theorem wJ (N:a7 L) (z:Int) (hz : -9223372036854775808<=z/\z<=9223372036854775807):Ev L 85 [.int .i64 z] (.agg (eZ z)):=by
 have two : ∀ k:Nat,k<18446744073709551616 -> ∀ q,Ev L 66 [.sl q [[.int .u32 ((k%4294967296:Nat):Int)],[.int .u32 ((k/4294967296:Nat):Int)]]] (.sl false ((dg k).map AJ)):=λ k hk q=>by
  have:=RT N.toc5 [k%4294967296,k/4294967296] q (W0 hk).2 (by simp)
  rw[mY hk]at this;exact this
 refine Ev.x N.JG rfl rfl ?_;by_cases h0:0<=z
 ·obtain ⟨k,rfl⟩:=Int.eq_ofNat_of_zero_le h0
  have hT:=two k (by omega);have z1:=HD k;(repeat' ((first|(apply AH<;>intro hc<;>try (exfalso;omega))|apply ET|(apply B5;omega)|(apply DU;omega)|apply E2|refine RB rfl rfl ?_|apply AE)<;>conv=>whnf))
  generalize k%4294967296=lo at *;generalize k/4294967296=hi at *;(repeat' (refine AD (hT _) ?_<;>conv=>whnf))
  refine EP 1000 N.C2 rfl rfl ?_;(repeat' (apply AE<;>conv=>whnf))
  all_goals (refine ⟨rfl,?_⟩;(conv=>whnf);skip)
  exact AU (D9 (by omega) (FK (by omega))) (C9 _)
 ·obtain ⟨k,hk⟩:=Int.eq_ofNat_of_zero_le (show 0 <= -z by omega)
  obtain rfl:z = -(k:Int):=by omega
  have hT:=two k (by omega);have z1:=HD k;(repeat' (apply AE<;>conv=>whnf))
  refine oO (by omega) ?_;(conv=>whnf)
  (repeat' ((first|(apply AH<;>intro hc<;>try (exfalso;omega))|fail)<;>conv=>whnf))
  refine B7.Ak (by omega) ?_;(conv=>whnf)
  (repeat' ((first|(apply AH<;>intro hc<;>try (exfalso;omega))|apply ET|(apply DU;omega)|apply E2|refine RB rfl rfl ?_)<;>conv=>whnf))
  generalize k%4294967296=lo at *;generalize k/4294967296=hi at *;(repeat' (refine AD (hT _) ?_<;>conv=>whnf))
  refine EP 1000 N.C2 rfl rfl ?_;(repeat' ((first|(apply AH<;>intro hc<;>try (exfalso;omega))|apply AW|apply AE)<;>conv=>whnf))
  all_goals (refine ⟨rfl,?_⟩;(conv=>whnf);skip)
  exact AU (D9 (by omega) (LX (by omega))) (C9 _)
theorem fO (N:a7 L) (n q:Bool) (m:List Nat) (hm:Sm 549755813888 m):Ev L 84 [.agg (rZ q n m)] (.agg (eZ (zv n m))):=by
 have hT:=λ q=>RT N.toc5 m q hm.1 (by have:=hm.2;omega)
 have hz:=HD (val m);have ha:=EF n m;refine Ev.x N.JI rfl rfl ?_;cases n
 ·rw[EB]at *
  (repeat' ((first|apply AE|refine AD (hT _) ?_)<;>conv=>whnf))
  refine EP 1000 N.C2 rfl rfl ?_;(repeat' (apply AE<;>conv=>whnf))
  all_goals (refine ⟨rfl,?_⟩;(conv=>whnf);skip)
  exact AU (D9 ha.symm (FK (by omega))) (C9 _)
 ·rw[MP]at *
  (repeat' ((first|apply AE|refine AD (hT _) ?_)<;>conv=>whnf))
  refine EP 1000 N.C2 rfl rfl ?_;(repeat' ((first|(apply AH<;>intro hc<;>try (exfalso;omega))|apply AW|apply AE)<;>conv=>whnf))
  all_goals (refine ⟨rfl,?_⟩;(conv=>whnf);skip)
  ·exact AU (D9 ha.symm (LX (by omega))) (C9 _)
  ·exact AU (D9 ha.symm (FK (by omega))) (C9 _)
theorem UG (N:a7 L) (n q:Bool) (m:List Nat) (hm:Sm 549755813888 m):Ev L 86 [.agg (rZ q n m)] (.int .i64 (o9 (zv n m))):=by
 have k7:=λ q q'=>M7 N.toc5 m [] q q' hm.1 QA (by have:=hm.2;omega) (by simp)
 rw[HP]at k7;refine Ev.x N.JH rfl rfl ?_;by_cases h0:val m=0
 ·have hn:CT (val m) (0:Nat)=0:=(OV (by omega)).symm
  rw[hn]at k7;(repeat' ((first|(apply AH<;>intro hc<;>try (exfalso;omega))|apply AE|refine AD (k7 _ _) ?_)<;>conv=>whnf))
  exact CR (VJ (by have:=EF n m;omega))
 ·have hn:CT (val m) (0:Nat)=1:=(ME (by omega)).symm
  rw[hn]at k7;cases n
  ·(repeat' ((first|(apply AH<;>intro hc<;>try (exfalso;omega))|apply AE|refine AD (k7 _ _) ?_)<;>conv=>whnf))
   exact CR (ZY (by rw[EB];omega))
  ·(repeat' ((first|(apply AH<;>intro hc<;>try (exfalso;omega))|apply AE|refine AD (k7 _ _) ?_)<;>conv=>whnf))
   exact CR (ZX (by rw[MP];omega))
theorem fJ (N:a7 L) (n1 n2 q1 q2:Bool) (a b:List Nat) (ha:Sm 549755813888 a) (hb:Sm 549755813888 b):Ev L 87 [.agg (rZ q1 n1 a),.agg (rZ q2 n2 b)] (.agg (eZ (zv n1 a+zv n2 b))):=by
 have la:=ha.2;have lb:=hb.2;have h1:=λ q q'=>wP N.toc5 a b q q' ha.1 hb.1 (by omega) (by omega)
 have h2:=λ q q'=>fR N.toc5 a b q q' ha.1 hb.1 (by omega) (by omega)
 have h3:=λ q q'=>fR N.toc5 b a q q' hb.1 ha.1 (by omega) (by omega)
 have k7:=λ q q'=>M7 N.toc5 a b q q' ha.1 hb.1 (by omega) (by omega)
 have z1:=HD (val a+val b);have z2:=HD (val a-val b);have z3:=HD (val b-val a);refine Ev.x N.JD rfl rfl ?_;by_cases l6:val a<val b
 ·have hn:CT (val a) (val b) = -1:=(HC (by omega)).symm
  rw[hn]at k7;cases n1<;>cases n2<;>simp only[EB,MP]
  ·(repeat' ((first|apply AE|refine AD (h1 _ _) ?_)<;>conv=>whnf))
   refine EP 1000 N.C2 rfl rfl ?_;(repeat' (apply AE<;>conv=>whnf))
   all_goals (refine ⟨rfl,?_⟩;(conv=>whnf);skip)
   exact AU (D9 (by omega) (FK (by omega))) (C9 _)
  ·(repeat' ((first|(apply AH<;>intro hc<;>try (exfalso;omega))|apply AE|refine AD (h3 _ _) ?_|refine AD (k7 _ _) ?_)<;>conv=>whnf))
   refine EP 1000 N.C2 rfl rfl ?_;(repeat' ((first|(apply AH<;>intro hc<;>try (exfalso;omega))|apply AW|apply AE)<;>conv=>whnf))
   all_goals (refine ⟨rfl,?_⟩;(conv=>whnf);skip)
   ·exact AU (D9 (by omega) (LX (by omega))) (C9 _)
  ·(repeat' ((first|(apply AH<;>intro hc<;>try (exfalso;omega))|apply AE|refine AD (h3 _ _) ?_|refine AD (k7 _ _) ?_)<;>conv=>whnf))
   refine EP 1000 N.C2 rfl rfl ?_;(repeat' (apply AE<;>conv=>whnf))
   all_goals (refine ⟨rfl,?_⟩;(conv=>whnf);skip)
   ·exact AU (D9 (by omega) (FK (by omega))) (C9 _)
  ·(repeat' ((first|apply AE|refine AD (h1 _ _) ?_)<;>conv=>whnf))
   refine EP 1000 N.C2 rfl rfl ?_;(repeat' ((first|(apply AH<;>intro hc<;>try (exfalso;omega))|apply AW|apply AE)<;>conv=>whnf))
   all_goals (refine ⟨rfl,?_⟩;(conv=>whnf);skip)
   ·exact AU (D9 (by omega) (LX (by omega))) (C9 _)
 ·have hn:CT (val a) (val b) ≠ -1:=by unfold CT;split<;>(try split)<;>omega
  generalize CT (val a) (val b)=cm at *;cases n1<;>cases n2<;>simp only[EB,MP]
  ·(repeat' ((first|apply AE|refine AD (h1 _ _) ?_)<;>conv=>whnf))
   refine EP 1000 N.C2 rfl rfl ?_;(repeat' (apply AE<;>conv=>whnf))
   all_goals (refine ⟨rfl,?_⟩;(conv=>whnf);skip)
   exact AU (D9 (by omega) (FK (by omega))) (C9 _)
  ·(repeat' ((first|(apply AH<;>intro hc<;>try (exfalso;omega))|apply AE|refine AD (h2 _ _) ?_|refine AD (k7 _ _) ?_)<;>conv=>whnf))
   refine EP 1000 N.C2 rfl rfl ?_;(repeat' (apply AE<;>conv=>whnf))
   all_goals (refine ⟨rfl,?_⟩;(conv=>whnf);skip)
   exact AU (D9 (by omega) (FK (by omega))) (C9 _)
  ·(repeat' ((first|(apply AH<;>intro hc<;>try (exfalso;omega))|apply AE|refine AD (h2 _ _) ?_|refine AD (k7 _ _) ?_)<;>conv=>whnf))
   refine EP 1000 N.C2 rfl rfl ?_;(repeat' ((first|(apply AH<;>intro hc<;>try (exfalso;omega))|apply AW|apply AE)<;>conv=>whnf))
   all_goals (refine ⟨rfl,?_⟩;(conv=>whnf);skip)
   ·exact AU (D9 (by omega) (LX (by omega))) (C9 _)
   ·exact AU (D9 (by omega) (FK (by omega))) (C9 _)
  ·(repeat' ((first|apply AE|refine AD (h1 _ _) ?_)<;>conv=>whnf))
   refine EP 1000 N.C2 rfl rfl ?_;(repeat' ((first|(apply AH<;>intro hc<;>try (exfalso;omega))|apply AW|apply AE)<;>conv=>whnf))
   all_goals (refine ⟨rfl,?_⟩;(conv=>whnf);skip)
   ·exact AU (D9 (by omega) (LX (by omega))) (C9 _)
   ·exact AU (D9 (by omega) (FK (by omega))) (C9 _)
theorem O2 (N:a7 L) (n1 n2 q1 q2:Bool) (a b:List Nat) (ha:AX a) (hb:AX b) (hl:a.length+b.length<=1099511627776):Ev L 88 [.agg (rZ q1 n1 a),.agg (rZ q2 n2 b)] (.agg (eZ (zv n1 a*zv n2 b))):=by
 have h1:=λ q q'=>XQ N.toc5 a b q q' ha hb hl
 have z1:=HD (val a*val b);have Cx:(zv n1 a*zv n2 b).natAbs=val a*val b:=by rw[Int.natAbs_mul,EF,EF]
 refine Ev.x N.JF rfl rfl ?_;have e:zv n1 a*zv n2 b=bif n1 == n2 then ((val a*val b:Nat):Int) else -((val a*val b:Nat):Int):=by
  cases n1<;>cases n2<;>simp [EB,MP,Int.mul_neg,Int.neg_mul]
 rw[e]at Cx ⊢;generalize val a*val b=V at *;cases n1<;>cases n2<;>simp only[beq_self_eq_true,cond_true,show (false == true)=false from rfl,show (true == false)=false from rfl,cond_false]
 ·(repeat' ((first|apply AE|refine AD (h1 _ _) ?_)<;>conv=>whnf))
  refine EP 1000 N.C2 rfl rfl ?_;(repeat' (apply AE<;>conv=>whnf))
  all_goals (refine ⟨rfl,?_⟩;(conv=>whnf);skip)
  exact AU (D9 (by omega) (FK (by omega))) (C9 _)
 ·(repeat' ((first|apply AE|refine AD (h1 _ _) ?_)<;>conv=>whnf))
  refine EP 1000 N.C2 rfl rfl ?_;(repeat' ((first|(apply AH<;>intro hc<;>try (exfalso;omega))|apply AW|apply AE)<;>conv=>whnf))
  all_goals (refine ⟨rfl,?_⟩;(conv=>whnf);skip)
  ·exact AU (D9 (by omega) (LX (by omega))) (C9 _)
  ·exact AU (D9 (by omega) (FK (by omega))) (C9 _)
 ·(repeat' ((first|apply AE|refine AD (h1 _ _) ?_)<;>conv=>whnf))
  refine EP 1000 N.C2 rfl rfl ?_;(repeat' ((first|(apply AH<;>intro hc<;>try (exfalso;omega))|apply AW|apply AE)<;>conv=>whnf))
  all_goals (refine ⟨rfl,?_⟩;(conv=>whnf);skip)
  ·exact AU (D9 (by omega) (LX (by omega))) (C9 _)
  ·exact AU (D9 (by omega) (FK (by omega))) (C9 _)
 ·(repeat' ((first|apply AE|refine AD (h1 _ _) ?_)<;>conv=>whnf))
  refine EP 1000 N.C2 rfl rfl ?_;(repeat' (apply AE<;>conv=>whnf))
  all_goals (refine ⟨rfl,?_⟩;(conv=>whnf);skip)
  exact AU (D9 (by omega) (FK (by omega))) (C9 _)
theorem W2:dg 1=[1]:=by rw[HT (by omega)];simp [EH]
theorem wM (N:a7 L) (V:Nat) (q:Bool):Ev L 90 [.sl q ((dg V).map AJ)] (.bool (decide (V=1))):=by
 have hv:=BK V;have hD:=DF V;have h1:V=1->dg V=[1]:=λ h=>by rw[h,W2]
 generalize dg V=l at *;refine Ev.x N.KX rfl rfl ?_;by_cases hl:l.length=1
 ·obtain ⟨d,rfl⟩:=List.length_eq_one_iff.1 hl
  have e:V=d:=by rw[<-hv];simp [val]
  subst e;have hd:[V][(0:Int).toNat]? = some V:=rfl;(repeat' ((first|(apply AH<;>intro hc<;>try (exfalso;omega))|apply AW|(refine BJ (by assumption) ?_ rfl ?_;omega)|apply AE)<;>conv=>whnf))
  ·exact oP (by omega)
  ·exact aZ (by omega)
 ·(repeat' ((first|(apply AH<;>intro hc<;>try (exfalso;omega))|apply AW|apply AE)<;>conv=>whnf))
  exact aZ (λ h=>by rw[h1 h]at hl;simp at hl)
theorem RU (N:a7 L) (n q1 q2:Bool) (m d:List Nat) (hm:Sm 549755813888 m) (hd:Sm 549755813888 d) (h0:val d≠0):Ev L 94 [.agg (rQ q1 q2 n m d)] (.agg (eQ (qv n m d))):=by
 have vj:=λ q q'=>XP N.toc5 m d q q' hm.1 hd.1 hm.2 hd.2 h0
 have Bp:=EF n m;have sq:Sm 549755813888 (dg (val m/val d)):=hm.low (Nat.div_le_self _ _);have sr:Sm 549755813888 (dg (val m%val d)):=hd.low (Nat.le_of_lt (Nat.mod_lt _ (by omega)));have hT:=λ q=>fO N n q _ sq
 have hG:=λ q q'=>wR N.toc5 d (dg (val m%val d)) q q' hd.1 sr.1 hd.2 sr.2
 rw[BK,show Nat.gcd (val d) (val m%val d)=Nat.gcd (val d) (zv n m).natAbs by rw[Bp,R4,Nat.gcd_comm]]at hG;have Dj:=iB (zv n m).natAbs h0;have vz:=Nat.gcd_le_left (zv n m).natAbs (show 0<val d by omega);have hz:=HD (val m%val d);obtain ⟨e1,e2,e3⟩:=Y1 (z:=zv n m) h0;unfold qv;generalize Pb:Nat.gcd (val d) (zv n m).natAbs=g at *;have h1:=λ q=>wM N g q
 refine Ev.x N.KZ rfl rfl ?_;by_cases gy:val m%val d=0
 ·(repeat' ((first|(apply AH<;>intro hc<;>try (exfalso;omega))|apply AW|apply AE|refine AD (vj _ _) ?_|refine AD (hT _) ?_)<;>conv=>whnf))
  refine EP 1000 N.GP rfl rfl ?_;(repeat' (apply AE<;>conv=>whnf))
  refine ⟨rfl,?_⟩;(conv=>whnf)
  (repeat' (refine HR rfl ?_<;>conv=>whnf))
  have gu:g=val d:=by
   rw[<-Pb,Bp];exact Nat.gcd_eq_left (Nat.dvd_of_mod_eq_zero gy)
  have hv:=BK (val m/val d);refine AU ?_ ?_
  ·show _=AV.agg (rQ _ _ _ _ _)
   rw[e1,e2,e3,Bp,gu,Nat.div_self (by omega),EF,hv,W2];have hs:decide (zv n (dg (val m/val d))<0)=decide (zv n m<0):=by
    cases n
    ·rw[EB,EB];simp;omega
    ·rw[MP,MP,hv]
     congr 1;rw[eq_iff_iff];have h5:=Nat.div_add_mod (val m) (val d);rw[gy,Nat.add_zero]at h5;constructor
     ·intro h6
      have h7:val m/val d≠0:=by omega
      have:val m≠0:=λ h8=>h7 (by rw[h8,Nat.zero_div])
      omega
     ·intro h6
      have h7:val m/val d≠0:=λ h8=>by rw[h8,Nat.mul_zero]at h5;omega
      omega
   rw[hs];rfl
  ·exact C8 _
 ·by_cases uq:g=1
  ·have Pk:=λ q=>fO N n q m hm
   have Au:=λ q=>RT N.toc5 d q hd.1 (by have:=hd.2;omega)
   (repeat' ((first|(apply AH<;>intro hc<;>try (exfalso;omega))|apply AW|apply AE|refine AD (vj _ _) ?_|refine AD (hG _ _) ?_|refine aU (h1 _) (λ hf => ?_) (λ hf => ?_)|refine AD (Pk _) ?_|refine AD (Au _) ?_)<;>conv=>whnf))
   ·refine AU ?_ (TV _ _ _)
    show _=AV.agg (rQ _ _ _ _ _);rw[e1,e2,e3,uq,Nat.div_one,Nat.div_one]
   ·exact absurd uq hf
  ·have sg:Sm 549755813888 (dg g):=hd.low vz
   have kv:=λ q q'=>XP N.toc5 m (dg g) q q' hm.1 sg.1 hm.2 sg.2 (by rw[BK];omega)
   have lf:=λ q q'=>XP N.toc5 d (dg g) q q' hd.1 sg.1 hd.2 sg.2 (by rw[BK];omega)
   rw[BK]at kv lf;(repeat' ((first|(apply AH<;>intro hc<;>try (exfalso;omega))|apply AW|apply AE|refine AD (vj _ _) ?_|refine AD (hG _ _) ?_|refine aU (h1 _) (λ hf => ?_) (λ hf => ?_)|refine AD (kv _ _) ?_|refine AD (lf _ _) ?_)<;>conv=>whnf))
   ·exact absurd hf uq
   ·refine AU ?_ (TV _ _ _)
    show _=AV.agg (rQ _ _ _ _ _);rw[e1,e2,e3,Bp];have hs:n=decide (zv n m<0):=by
     have:val m≠0:=λ h=>gy (by rw[h,Nat.zero_mod])
     cases n
     ·exact FK (by rw[EB];omega)
     ·exact LX (by rw[MP];omega)
    rw[<-hs]
theorem QE (N:a7 L) (m:List Nat):Ev L 91 [.sl false (m.map AJ)] (.agg [.bool false,.sl false (m.map AJ)]):=by
 refine Ev.x N.KY rfl rfl ?_;(repeat' (apply AE<;>conv=>whnf))
 exact AU rfl (cM _ _)
def pH (n:Bool) (m d:List Nat) (n':Bool) (m' d':List Nat) (w:Bool) (k:Nat):Prop:=Sm k m'/\Sm k d'/\val d'≠0/\(w=true->val d'=1)/\qv n m d=mkRat (zv n' m') (val d')
theorem MI (N:a7 L) (n:Bool) (m d:List Nat) (k:Nat) (hk:1<=k/\k<=549755813888) (hm:Sm k m) (hd:Sm k d) : ∃ n' m' d' w,Ev L 89 [.agg (rQ false false n m d)] (.agg [.bool n',.sl false (m'.map AJ),.sl false (d'.map AJ),.bool w])/\pH n m d n' m' d' w k:=by
 have k7:=λ q q'=>M7 N.toc5 d [] q q' hd.1 QA (by have:=hd.2;omega) (by simp)
 rw[HP]at k7;by_cases h1:d=[1]
 ·subst h1
  refine ⟨n,m,[1],true,?_,hm,hd,by decide,λ_=>rfl,rfl⟩;refine Ev.x N.HI rfl rfl ?_;have hd:[1][(0:Int).toNat]? = some 1:=rfl;have pd:([1]:List Nat).length=1:=rfl;(repeat' ((first|(apply AH<;>intro hc<;>try (exfalso;omega))|apply AW|(refine BJ (by assumption) ?_ rfl ?_;omega)|apply AE)<;>conv=>whnf))
  exact AU rfl (RI _ _ _ _)
 have k8 : ∀ x,d[(0:Int).toNat]? = some x->(d.length:Int)=1->(x:Int)≠1:=λ x hx hl h=>by
  obtain ⟨y,rfl⟩:=List.length_eq_one_iff.1 (show d.length=1 by omega);simp at hx;apply h1;congr 1;omega
 by_cases h0:val d=0
 ·refine ⟨false,[],[1],true,?_,lQ _,Z1 hk.1 (by omega),by decide,λ_=>rfl,by unfold qv;rw[h0,Rat.mkRat_zero,nH,Rat.zero_mkRat]⟩
  have hn:CT (val d) (0:Nat)=0:=(OV (by omega)).symm;rw[hn]at k7;refine Ev.x N.HI rfl rfl ?_;have hD:=hd.1;(repeat' ((first|(apply AH<;>intro hc<;>try (exfalso;omega))|apply AW|(refine NP (by assumption) ?_ (λ e he hb => ?_);omega)|refine HR rfl ?_|apply AE|refine AD (k7 _ _) ?_)<;>conv=>whnf))
  all_goals first
   | exact AU rfl (RI _ _ _ _)
   | exact AU rfl (RI false true [] [1])
   | exact absurd (by assumption) (k8 _ he (by assumption))
 ·refine ⟨n,m,d,false,?_,hm,hd,h0,(λ h=>by cases h),rfl⟩
  have hn:CT (val d) (0:Nat)=1:=(ME (by omega)).symm;rw[hn]at k7;have hD:=hd.1;refine Ev.x N.HI rfl rfl ?_;(repeat' ((first|(apply AH<;>intro hc<;>try (exfalso;omega))|apply AW|(refine NP (by assumption) ?_ (λ e he hb => ?_);omega)|apply AE|refine AD (k7 _ _) ?_)<;>conv=>whnf))
  all_goals first
   | exact AU rfl (RI _ _ _ _)
   | exact AU rfl (RI false true [] [1])
   | exact absurd (by assumption) (k8 _ he (by assumption))
theorem X0 (N:a7 L) (n q1 q2:Bool) (m d:List Nat) (hm:Sm 549755813888 m) (hd:Sm 549755813888 d):Ev L 95 [.agg (rQ q1 q2 n m d)] (.agg (eQ (qv n m d))):=by
 obtain ⟨n',m',d',w,hr,s1,s2,s3,s4,s5⟩:=MI N n m d 549755813888 (by omega) hm hd;have hl:=λ q1 q2=>RU N n' q1 q2 m' d' s1 s2 s3
 rw[s5];unfold qv at hl;refine Ev.x N.KV rfl rfl ?_;(repeat' ((first|apply F3|apply AE|refine AD (hr) ?_|refine AD (hl _ _) ?_)<;>conv=>whnf))
 exact AU rfl (C8 _)
theorem gK (N:a7 L) (n q1 q2:Bool) (m d:List Nat) (hm:Sm 549755813888 m) (hd:Sm 549755813888 d):Ev L 97 [.agg (rQ q1 q2 n m d)] (.int .i64 (o9 (qv n m d).num)):=by
 obtain ⟨n',m',d',w,hr,s1,s2,s3,s4,s5⟩:=MI N n m d 549755813888 (by omega) hm hd;have hl:=λ q=>UG N n' q m' s1
 rw[s5,jO s3];refine Ev.x N.KT rfl rfl ?_;(repeat' ((first|apply F3|apply AE|refine AD (hr) ?_|refine AD (hl _) ?_)<;>conv=>whnf))
 exact CR rfl
theorem WF (z:Int):AV.agg [.bool (decide (z<0)),.sl false ((dg z.natAbs).map AJ),.sl false [[.int .u32 1]]] = .agg (eQ (z:Rat)):=by
 show _=AV.agg (rQ _ _ _ _ _);rw[Rat.num_intCast,Rat.den_intCast,W2];rfl
theorem JA (N:a7 L) (z:Int) (hz : -9223372036854775808<=z/\z<=9223372036854775807):Ev L 96 [.int .i64 z] (.agg (eQ (z:Rat))):=by
 have h1:=wJ N z hz;refine Ev.x N.KS rfl rfl ?_;(repeat' ((first|apply AE|refine AD (h1) ?_)<;>conv=>whnf))
 refine EP 1000 N.GP rfl rfl ?_;(repeat' (apply AE<;>conv=>whnf))
 refine ⟨rfl,?_⟩;(conv=>whnf)
 (repeat' (refine HR rfl ?_<;>conv=>whnf))
 exact AU (WF z) (C8 _)
theorem PQ {k l:Nat} {n1 n2:Bool} {a b:List Nat} (ha:Sm k a) (hb:Sm l b):Sm (k+l) (dg (zv n1 a*zv n2 b).natAbs):=ha.mul hb (by rw[Int.natAbs_mul,EF,EF])
theorem lT {k:Nat} {x y:Int} (ha:Sm k (dg x.natAbs)) (hb:Sm k (dg y.natAbs)):Sm (k+1) (dg (x+y).natAbs):=ha.add hb (by rw[BK,BK];omega)
theorem gI (N:a7 L) (k:Nat) (hk:1<=k/\k<=68719476736) (n1 n2 q1 q2 q3 q4:Bool) (m1 d1 m2 d2:List Nat) (dw:Sm k m1) (gp:Sm k d1) (di:Sm k m2) (ln:Sm k d2) :
  Ev L 98 [.agg (rQ q1 q2 n1 m1 d1),.agg (rQ q3 q4 n2 m2 d2)] (.agg (eQ (qv n1 m1 d1+qv n2 m2 d2))):=by
 obtain ⟨a1,a2,a3,w1,bg,s1,s2,s3,s4,s5⟩:=MI N n1 m1 d1 k (by omega) dw gp;obtain ⟨b1,b2,b3,w2,af,t1,t2,t3,t4,t5⟩:=MI N n2 m2 d2 k (by omega) di ln;rw[s5,t5];have hA:=λ q q'=>fJ N a1 b1 q q' a2 b2 (s1.le (by omega)) (t1.le (by omega))
 have qt:Sm (k+1) (dg (zv a1 a2+zv b1 b2).natAbs):=lT (by rw[EF];exact s1.pn) (by rw[EF];exact t1.pn);by_cases hw:w1=true/\w2=true
 ·obtain ⟨rfl,rfl⟩:=hw
  rw[s4 rfl,t4 rfl,jL (by omega),jN];generalize zv a1 a2+zv b1 b2=z at *;refine Ev.x N.HH rfl rfl ?_;(repeat' ((first|apply F3|apply AE|refine AD (bg) ?_|refine AD (af) ?_|refine AD (hA _ _) ?_)<;>conv=>whnf))
  refine EP 1000 N.GP rfl rfl ?_;(repeat' (apply AE<;>conv=>whnf))
  refine ⟨rfl,?_⟩;(conv=>whnf)
  (repeat' (refine HR rfl ?_<;>conv=>whnf))
  exact AU (WF z) (C8 _)
 ·have k7:=λ q q'=>M7 N.toc5 a3 b3 q q' s2.1 t2.1 (by have:=s2.2;omega) (by have:=t2.2;omega)
  by_cases Qd:val a3=val b3
  ·have hn:CT (val a3) (val b3)=0:=(OV (by omega)).symm
   rw[hn]at k7;rw[<-Qd,jL s3];generalize zv a1 a2+zv b1 b2=z at *;have hl:=λ q1 q2=>RU N (decide (z<0)) q1 q2 (dg z.natAbs) a3 (qt.le (by omega)) (s2.le (by omega)) s3
   unfold qv at hl;rw[ES]at hl;refine Ev.x N.HH rfl rfl ?_;cases w1<;>cases w2
   ·(repeat' ((first|(apply AH<;>intro hc<;>try (exfalso;omega))|apply F3|apply AE|refine AD (bg) ?_|refine AD (af) ?_|refine AD (hA _ _) ?_|refine AD (k7 _ _) ?_|refine AD (hl _ _) ?_)<;>conv=>whnf))
    exact AU rfl (C8 _)
   ·(repeat' ((first|(apply AH<;>intro hc<;>try (exfalso;omega))|apply F3|apply AE|refine AD (bg) ?_|refine AD (af) ?_|refine AD (hA _ _) ?_|refine AD (k7 _ _) ?_|refine AD (hl _ _) ?_)<;>conv=>whnf))
    exact AU rfl (C8 _)
   ·(repeat' ((first|(apply AH<;>intro hc<;>try (exfalso;omega))|apply F3|apply AE|refine AD (bg) ?_|refine AD (af) ?_|refine AD (hA _ _) ?_|refine AD (k7 _ _) ?_|refine AD (hl _ _) ?_)<;>conv=>whnf))
    exact AU rfl (C8 _)
   ·exact absurd ⟨rfl,rfl⟩ hw
  ·have hn:CT (val a3) (val b3)≠0:=by unfold CT;split<;>(try split)<;>omega
   generalize CT (val a3) (val b3)=cm at *;have ep:=λ q q'=>O2 N a1 false q q' a2 b3 s1.1 t2.1 (by have:=s1.2;have:=t2.2;omega)
   have ga:=λ q q'=>O2 N b1 false q q' b2 a3 t1.1 s2.1 (by have:=t1.2;have:=s2.2;omega)
   have lg:=λ q q'=>XQ N.toc5 a3 b3 q q' s2.1 t2.1 (by have:=s2.2;have:=t2.2;omega)
   have qj:=QE N a3;have oa:=QE N b3;have g1:Sm (k+k) (dg (zv a1 a2*zv false b3).natAbs):=PQ s1 t2;have g2:Sm (k+k) (dg (zv b1 b2*zv false a3).natAbs):=PQ t1 s2;have g3:=lT g1 g2;have g4:Sm (k+k) (dg (val a3*val b3)):=s2.mul t2 rfl;rw[UW s3 t3,<-EB b3,<-EB a3];have ui:val a3*val b3≠0:=Nat.mul_ne_zero s3 t3;generalize zv a1 a2*zv false b3=x at *;generalize zv b1 b2*zv false a3=y at *;generalize val a3*val b3=D at *;have Ap:=λ q q'=>fJ N (decide (x<0)) (decide (y<0)) q q' (dg x.natAbs) (dg y.natAbs) (g1.le (by omega)) (g2.le (by omega))
   rw[ES,ES]at Ap;generalize x+y=z at *;have hl:=λ q1 q2=>RU N (decide (z<0)) q1 q2 (dg z.natAbs) (dg D) (g3.le (by omega)) (g4.le (by omega)) (by rw[BK];exact ui)
   unfold qv at hl;rw[ES,BK]at hl;refine Ev.x N.HH rfl rfl ?_;cases w1<;>cases w2
   ·(repeat' ((first|(apply AH<;>intro hc<;>try (exfalso;omega))|apply F3|apply OI|apply AE|refine AD (bg) ?_|refine AD (af) ?_|refine AD (k7 _ _) ?_|refine AD (qj) ?_|refine AD (oa) ?_|refine AD (ep _ _) ?_|refine AD (ga _ _) ?_|refine AD (Ap _ _) ?_|refine AD (lg _ _) ?_|refine AD (hl _ _) ?_)<;>conv=>whnf))
    exact AU rfl (C8 _)
   ·(repeat' ((first|(apply AH<;>intro hc<;>try (exfalso;omega))|apply F3|apply OI|apply AE|refine AD (bg) ?_|refine AD (af) ?_|refine AD (k7 _ _) ?_|refine AD (qj) ?_|refine AD (oa) ?_|refine AD (ep _ _) ?_|refine AD (ga _ _) ?_|refine AD (Ap _ _) ?_|refine AD (lg _ _) ?_|refine AD (hl _ _) ?_)<;>conv=>whnf))
    exact AU rfl (C8 _)
   ·(repeat' ((first|(apply AH<;>intro hc<;>try (exfalso;omega))|apply F3|apply OI|apply AE|refine AD (bg) ?_|refine AD (af) ?_|refine AD (k7 _ _) ?_|refine AD (qj) ?_|refine AD (oa) ?_|refine AD (ep _ _) ?_|refine AD (ga _ _) ?_|refine AD (Ap _ _) ?_|refine AD (lg _ _) ?_|refine AD (hl _ _) ?_)<;>conv=>whnf))
    exact AU rfl (C8 _)
   ·exact absurd ⟨rfl,rfl⟩ hw
theorem gJ (N:a7 L) (k:Nat) (hk:1<=k/\k<=68719476736) (n1 n2 q1 q2 q3 q4:Bool) (m1 d1 m2 d2:List Nat) (dw:Sm k m1) (gp:Sm k d1) (di:Sm k m2) (ln:Sm k d2) :
  Ev L 99 [.agg (rQ q1 q2 n1 m1 d1),.agg (rQ q3 q4 n2 m2 d2)] (.agg (eQ (qv n1 m1 d1*qv n2 m2 d2))):=by
 obtain ⟨a1,a2,a3,w1,bg,s1,s2,s3,s4,s5⟩:=MI N n1 m1 d1 k (by omega) dw gp;obtain ⟨b1,b2,b3,w2,af,t1,t2,t3,t4,t5⟩:=MI N n2 m2 d2 k (by omega) di ln;rw[s5,t5,YZ];have ep:=λ q q'=>O2 N a1 b1 q q' a2 b2 s1.1 t1.1 (by have:=s1.2;have:=t1.2;omega)
 have lg:=λ q q'=>XQ N.toc5 a3 b3 q q' s2.1 t2.1 (by have:=s2.2;have:=t2.2;omega)
 have g1:Sm (k+k) (dg (zv a1 a2*zv b1 b2).natAbs):=PQ s1 t1;have g4:Sm (k+k) (dg (val a3*val b3)):=s2.mul t2 rfl;have ui:val a3*val b3≠0:=Nat.mul_ne_zero s3 t3;generalize zv a1 a2*zv b1 b2=z at *;by_cases hw:w1=true/\w2=true
 ·obtain ⟨rfl,rfl⟩:=hw
  rw[s4 rfl,t4 rfl,Nat.one_mul,jN];refine Ev.x N.IA rfl rfl ?_;(repeat' ((first|apply F3|apply AE|refine AD (bg) ?_|refine AD (af) ?_|refine AD (ep _ _) ?_)<;>conv=>whnf))
  refine EP 1000 N.GP rfl rfl ?_;(repeat' (apply AE<;>conv=>whnf))
  refine ⟨rfl,?_⟩;(conv=>whnf)
  (repeat' (refine HR rfl ?_<;>conv=>whnf))
  exact AU (WF z) (C8 _)
 ·generalize val a3*val b3=D at *
  have hl:=λ q1 q2=>RU N (decide (z<0)) q1 q2 (dg z.natAbs) (dg D) (g1.le (by omega)) (g4.le (by omega)) (by rw[BK];exact ui)
  unfold qv at hl;rw[ES,BK]at hl;refine Ev.x N.IA rfl rfl ?_;cases w1<;>cases w2
  ·(repeat' ((first|apply F3|apply AE|refine AD (bg) ?_|refine AD (af) ?_|refine AD (ep _ _) ?_|refine AD (lg _ _) ?_|refine AD (hl _ _) ?_)<;>conv=>whnf))
   exact AU rfl (C8 _)
  ·(repeat' ((first|apply F3|apply AE|refine AD (bg) ?_|refine AD (af) ?_|refine AD (ep _ _) ?_|refine AD (lg _ _) ?_|refine AD (hl _ _) ?_)<;>conv=>whnf))
   exact AU rfl (C8 _)
  ·(repeat' ((first|apply F3|apply AE|refine AD (bg) ?_|refine AD (af) ?_|refine AD (ep _ _) ?_|refine AD (lg _ _) ?_|refine AD (hl _ _) ?_)<;>conv=>whnf))
   exact AU rfl (C8 _)
  ·exact absurd ⟨rfl,rfl⟩ hw
theorem cN (x:Rat) (e:Int):A1 (.j4 [.agg (eQ x),.int .i64 e]):=by
 simp only[A1,CM,and_true,true_and];exact ⟨CO _,CO _⟩
theorem yB (N:a7 L) (k:Nat) (hk:1<=k/\k<=68719476736) (n1 n2 q1 q2 q3 q4:Bool) (m1 d1 m2 d2:List Nat) (dw:Sm k m1) (gp:Sm k d1) (di:Sm k m2) (ln:Sm k d2) (h0:qv n2 m2 d2≠0) :
  Ev L 100 [.agg (rQ q1 q2 n1 m1 d1),.agg (rQ q3 q4 n2 m2 d2)] (.j4 [.agg (eQ (qv n1 m1 d1/qv n2 m2 d2)),.int .i64 0]):=by
 obtain ⟨a1,a2,a3,w1,bg,s1,s2,s3,s4,s5⟩:=MI N n1 m1 d1 k (by omega) dw gp;obtain ⟨b1,b2,b3,w2,af,t1,t2,t3,t4,t5⟩:=MI N n2 m2 d2 k (by omega) di ln;rw[t5]at h0;rw[s5,t5];have vp:zv b1 b2≠0:=λ h=>h0 ((Y0 t3).2 h)
 rw[Jt s3 t3 vp];have hS:=λ q=>UG N b1 q b2 (t1.le (by omega))
 have Bj:o9 (zv b1 b2)≠0:=by unfold o9;split<;>(try split)<;>omega
 have ep:=λ q q'=>O2 N a1 false q q' a2 b3 s1.1 t2.1 (by have:=s1.2;have:=t2.2;omega)
 have ga:=λ q q'=>O2 N false b1 q q' a3 b2 s2.1 t1.1 (by have:=t1.2;have:=s2.2;omega)
 have qj:=QE N a3;have oa:=QE N b3;have g1:Sm (k+k) (dg (zv a1 a2*zv false b3).natAbs):=PQ s1 t2;have g2:Sm (k+k) (dg (zv false a3*zv b1 b2).natAbs):=PQ s2 t1;have hd:(zv false a3*zv b1 b2).natAbs=val a3*(zv b1 b2).natAbs:=by rw[Int.natAbs_mul,EF]
 have uj:(zv false a3*zv b1 b2).sign=(zv b1 b2).sign:=by
  rw[Int.sign_mul,EB,Int.sign_eq_one_of_pos (by omega),Int.one_mul]
 have jq:zv false a3*zv b1 b2≠0:=by
  intro h;rw[h]at uj;exact vp (by simpa using uj.symm)
 rw[<-hd,<-uj,<-EB b3];generalize zv a1 a2*zv false b3=x at *;generalize zv false a3*zv b1 b2=y at *;generalize o9 (zv b1 b2)=sg at *;have hl:=λ q1 q2=>RU N (decide (x<0) != decide (y<0)) q1 q2 (dg x.natAbs) (dg y.natAbs) (g1.le (by omega)) (g2.le (by omega)) (by rw[BK];omega)
 unfold qv at hl;rw[Nj jq,BK]at hl;refine Ev.x N.KQ rfl rfl ?_;(repeat' ((first|(apply AH<;>intro hc<;>try (exfalso;omega))|apply F3|apply OI|apply AE|refine AD (bg) ?_|refine AD (af) ?_|refine AD (hS _) ?_|refine AD (qj) ?_|refine AD (oa) ?_|refine AD (ep _ _) ?_|refine AD (ga _ _) ?_)<;>conv=>whnf))
 refine EP 1000 N.K0 rfl rfl ?_;(repeat' (apply AE<;>conv=>whnf))
 generalize decide (x<0)=p at *;generalize decide (y<0)=r at *;cases p<;>cases r;all_goals
  (conv=>whnf)
  refine ⟨rfl,?_⟩;(conv=>whnf)
  (repeat' (refine AD (hl _ _) ?_<;>conv=>whnf))
  exact AU rfl (cN _ _)
theorem Bt.sm {k:Nat} {x:Rat} (h:Bt k x) (hk:k<2199023255552):Sm 68719476736 (dg x.num.natAbs)/\Sm 68719476736 (dg x.den):=h.Fp (by omega)
theorem O1 (N:a7 L) {x y:Rat} {k l:Nat} (hx:Bt k x) (hy:Bt l y) (hk:k<2199023255552) (hl:l<2199023255552):Ev L 98 [.agg (eQ x),.agg (eQ y)] (.agg (eQ (x+y))):=by
 have:=gI N 68719476736 (by omega) (decide (x.num<0)) (decide (y.num<0)) false false false false _ _ _ _ (hx.sm hk).1 (hx.sm hk).2 (hy.sm hl).1 (hy.sm hl).2
 rw[EM,EM]at this;exact this
theorem M6 (N:a7 L) {x y:Rat} {k l:Nat} (hx:Bt k x) (hy:Bt l y) (hk:k<2199023255552) (hl:l<2199023255552):Ev L 99 [.agg (eQ x),.agg (eQ y)] (.agg (eQ (x*y))):=by
 have:=gJ N 68719476736 (by omega) (decide (x.num<0)) (decide (y.num<0)) false false false false _ _ _ _ (hx.sm hk).1 (hx.sm hk).2 (hy.sm hl).1 (hy.sm hl).2
 rw[EM,EM]at this;exact this
theorem fG (N:a7 L) {x y:Rat} {k l:Nat} (hx:Bt k x) (hy:Bt l y) (hk:k<2199023255552) (hl:l<2199023255552) (h0:y≠0):Ev L 100 [.agg (eQ x),.agg (eQ y)] (.j4 [.agg (eQ (x/y)),.int .i64 0]):=by
 have:=yB N 68719476736 (by omega) (decide (x.num<0)) (decide (y.num<0)) false false false false _ _ _ _ (hx.sm hk).1 (hx.sm hk).2 (hy.sm hl).1 (hy.sm hl).2 (by rw[EM];exact h0)
 rw[EM,EM]at this;exact this
theorem gN (N:a7 L) {x:Rat} {k:Nat} (hx:Bt k x) (hk:k<2199023255552):Ev L 95 [.agg (eQ x)] (.agg (eQ x)):=by
 have:=X0 N (decide (x.num<0)) false false _ _ ((hx.sm hk).1.le (by omega)) ((hx.sm hk).2.le (by omega))
 rw[EM]at this;exact this
theorem UJ (N:a7 L) {x:Rat} {k:Nat} (hx:Bt k x) (hk:k<2199023255552):Ev L 97 [.agg (eQ x)] (.int .i64 (o9 x.num)):=by
 have:=gK N (decide (x.num<0)) false false _ _ ((hx.sm hk).1.le (by omega)) ((hx.sm hk).2.le (by omega))
 rw[EM]at this;exact this
theorem PL {x:Rat}:o9 x.num=0↔x=0:=by
 rw[<-Rat.num_eq_zero];unfold o9;split
 ·omega
 ·split<;>omega
theorem kN (n:Bool) (m d:List Nat):qv (!n) m d = -(qv n m d):=by
 unfold qv;have h:zv (!n) m = -(zv n m):=by cases n<;>simp [zv]
 rw[h,Rat.neg_mkRat]
theorem rW (n:Bool) (m d:List Nat):A1 (.agg (rQ false false n m d)):=by
 simp only[A1,CM,and_true,true_and];exact ⟨CO _,CO _⟩
theorem fI (N:z9 L) (n:Bool) (m d:List Nat):Ev L 149 [.agg (rQ false false n m d)] (.agg (rQ false false (!n) m d)):=by
 refine Ev.x N.KW rfl rfl ?_;cases n;all_goals
  (repeat' (apply AE<;>conv=>whnf))
  exact AU rfl (rW _ _ _)
theorem yE (N:z9 L) {x y:Rat} {k l:Nat} (hx:Bt k x) (hy:Bt l y) (hk:k<2199023255552) (hl:l<2199023255552):Ev L 150 [.agg (eQ x),.agg (eQ y)] (.agg (eQ (x-y))):=by
 have hF:=fI N (decide (y.num<0)) (dg y.num.natAbs) (dg y.den);have hA:=λ q3 q4=>gI N.toa7 68719476736 (by omega) (decide (x.num<0)) (!decide (y.num<0)) false false q3 q4 _ _ _ _ (hx.sm hk).1 (hx.sm hk).2 (hy.sm hl).1 (hy.sm hl).2
 rw[kN,EM,EM,<-Rat.sub_eq_add_neg]at hA;refine Ev.x N.KU rfl rfl ?_;(repeat' ((first|apply bC|apply AE|refine AD (hF) ?_|refine AD (hA _ _) ?_)<;>conv=>whnf))
 exact AU rfl (C8 _)
theorem YG {l:List Rat} {i:Nat} {x:Rat} (h:l[i]? = some x):l.getD i 0=x:=by rw[List.getD_eq_getElem?_getD,h];rfl
theorem yI {l:List Rat} {i:Nat} (h:l.length<=i):l.getD i 0=0:=by rw[List.getD_eq_getElem?_getD,List.getElem?_eq_none h];rfl
end Go.c4

namespace Go.c4
open F
attribute [local irreducible] AA AF AR AB B7 AQ AY A7 A6 BS AP BO BW C0 BL A0 BH BZ AC A4 AL pw CD B2 CH CX CS CK CI BI B8
variable {L:Lib} (n:Nt)
set_option maxHeartbeats 1000000
end Go.c4

namespace Go.c4
open F
attribute [local irreducible] AA AF AR AB B7 AQ AY A7 A6 BS AP BO BW C0 BL A0 BH BZ AC A4 AL pw CD B2 CH CX CS CK CI BI B8
variable {L:Lib}
set_option maxHeartbeats 4000000
theorem wH (N:de L) (S:GH) (n k:Nat) (h:S.Ok n k) (hn:n<=64):Ev L 130 [.agg (eS S)] (.bool true):=by
 have h1:=h.la;have h2:=h.lb;have h3:=h.lc;refine Ev.x N.J4 rfl rfl ?_;(repeat' ((first|(apply AH<;>intro hc<;>try (exfalso;omega))|apply AW|apply AE)<;>conv=>whnf))
 refine CW (λ i=>S.a.length-i) (λ(i:Nat)=>i<=S.a.length) (λ i=>[(28,.int .i64 i)]) (λ_=>[]) [] [] 0 (by (conv=>whnf);exact ⟨rfl,rfl,rfl⟩) (by omega) ?_;intro i p1 ih;by_cases hi:i<S.a.length
 ·obtain ⟨r,hr⟩ : ∃ r,S.a[i]? = some r:=⟨_,zE hi⟩
  have mr:S.a[(i:Int).toNat]? = some r:=hr;have ea:=h.lr r (zM hr);(repeat' ((first|(apply AH<;>intro hc<;>try (exfalso;omega))|(apply AZ;omega)|apply AW|(refine BJ (by assumption) ?_ rfl ?_;omega)|apply AE)<;>conv=>whnf))
  exact BQ [] (ih (i+1) (by omega) (by omega))
 ·obtain rfl:i=S.a.length:=by omega
  clear ih;(repeat' ((first|(apply AH<;>intro hc<;>try (exfalso;omega))|apply AE)<;>conv=>whnf))
  exact L6 rfl
end Go.c4

namespace Go.c4
end Go.c4



namespace Go.c4
open F
attribute [local irreducible] AA AF AR AB B7 AQ AY A7 A6 BS AP BO BW C0 BL A0 BH BZ AC A4 AL pw CD B2 CH CX CS CK CI BI B8
variable {L:Lib}
set_option maxHeartbeats 4000000
theorem VW (m p:Nat):(List.replicate m (0:Rat)).set p 1=G6 m p:=by
 refine List.ext_getElem? λ j => ?_
 simp only[G6,List.getElem?_set,List.getElem?_map,List.getElem?_replicate,List.length_replicate];by_cases h:j<m
 ·rw[List.getElem?_range h]
  by_cases e:p=j
  ·subst e;simp [h]
  ·simp [h,e];intro h3;omega
 ·rw[List.getElem?_eq_none (by simpa using h)]
  simp [h];intro e;omega
def fz {α:Type} (z:α) (l:List α) (m:Nat):List α:=l++List.replicate (m-l.length) z
theorem YE {α:Type} {z:α} {l:List α} {m:Nat} (h:l.length<=m):(fz z l m).length=m:=by simp [fz];omega
theorem YF {α:Type} {z x:α} {l:List α} {m:Nat} (h:l.length<m):(fz z l m).set l.length x=fz z (l++[x]) m:=by
 unfold fz;obtain ⟨k,hk⟩ : ∃ k,m-l.length=k+1:=⟨m-l.length-1,by omega⟩;rw[List.set_append_right _ _ (by simp),hk,Nat.sub_self,List.replicate_succ,List.set_cons_zero,List.length_append,List.length_singleton,show m-(l.length+1)=k by omega,List.append_assoc];rfl
theorem yH {α:Type} {z:α} {l:List α} {m:Nat} (h:l.length<m):(fz z l m)[l.length]? = some z:=by
 unfold fz;rw[List.getElem?_append_right (by omega),Nat.sub_self,List.getElem?_replicate,if_pos (by omega)]
theorem YD {α:Type} {z:α} {l:List α} {m:Nat} (h:l.length=m):fz z l m=l:=by simp [fz,h]
theorem mO {α:Type} {l:List α} {i:Nat} {x:α} (h:l[i]? = some x):l.take (i+1)=l.take i++[x]:=by
 rw[List.take_add_one,h];rfl
end Go.c4

namespace Go.c4
variable {L:Lib}
end Go.c4

namespace Go.c4
open F
attribute [local irreducible] AA AF AR AB B7 AQ AY A7 A6 BS AP BO BW C0 BL A0 BH BZ AC A4 AL pw CD B2 CH CX CS CK CI BI B8
variable {L:Lib}
set_option maxHeartbeats 16000000
end Go.c4

namespace Go.c4
def hQ (S:GH):Nat->Rat
 | 0=>S.d
 | j+1=>BP S.c (wQ S j)
theorem Ob {r:List Rat} (h:MO r=r) (hn:r.length≠0):r.getD (r.length-1) 0≠0:=by
 have hl:=mT r;rw[h]at hl;obtain ⟨n,km⟩ : ∃ n,r.length=n+1:=⟨r.length-1,by omega⟩;rw[km,GY]at hl;rw[km,Nat.add_sub_cancel];intro h0;rw[if_pos h0]at hl;have:=RM r n
 omega
def D4 (B A:List Rat) (n:Nat):GH where
 a:=(List.range n).map λ i=>if i=0 then (List.range n).map λ k => -(A.getD (k+1) 0) else G6 n ((i-1:Nat):Int)
 b:=G6 n 0
 c:=(List.range n).map λ i=>B.getD (i+1) 0-B.getD 0 0*A.getD (i+1) 0
 d:=B.getD 0 0
def CJ (x:Rat):Rat:=if x.num<0 then -x else x
end Go.c4

namespace Go.c4
open F
attribute [local irreducible] AA AF AR AB B7 AQ AY A7 A6 BS AP BO BW C0 BL A0 BH BZ AC A4 AL pw CD B2 CH CX CS CK CI BI B8
variable {L:Lib}
set_option maxHeartbeats 8000000
theorem MJ {l:List Rat} {k:Nat} (h:Bs k l) (i:Nat):Bt k (l.getD i 0):=by
 rw[List.getD_eq_getElem?_getD];cases e:l[i]? with
 | none=>exact Bt.zero k
 | some x=>exact h.at e
theorem ZW (z:Int):o9 z = -1/\z<0\/o9 z=0/\z=0\/o9 z=1/\0<z:=by
 unfold o9;split
 ·exact Or.inl ⟨rfl,by omega⟩
 ·split
  ·exact Or.inr (Or.inr ⟨rfl,by omega⟩)
  ·exact Or.inr (Or.inl ⟨rfl,by omega⟩)
theorem sC {a b:Nat} {z:Int} (h:z=(a:Int)-b):CT a b=o9 z:=by
 unfold CT o9;subst h;repeat' split
 all_goals omega
theorem fK (N:o0 L) (n1 n2 q1 q2:Bool) (a b:List Nat) (ha:Sm 549755813888 a) (hb:Sm 549755813888 b):Ev L 197 [.agg (rZ q1 n1 a),.agg (rZ q2 n2 b)] (.int .i64 (o9 (zv n1 a-zv n2 b))):=by
 have h1:=λ q=>UG N.toa7 n1 q a ha
 have h2:=λ q=>UG N.toa7 n2 q b hb
 have h3:=λ q q'=>M7 N.toc5 a b q q' ha.1 hb.1 (by have:=ha.2;omega) (by have:=hb.2;omega)
 have h4:=λ q q'=>M7 N.toc5 b a q q' hb.1 ha.1 (by have:=hb.2;omega) (by have:=ha.2;omega)
 have za:=EF n1 a;have zb:=EF n2 b;generalize zv n1 a=x at *;generalize zv n2 b=y at *;rcases ZW x with ⟨e1,g1⟩|⟨e1,g1⟩|⟨e1,g1⟩<;>rcases ZW y with ⟨e2,g2⟩|⟨e2,g2⟩|⟨e2,g2⟩
 all_goals
  rw[e1]at h1;rw[e2]at h2;refine Ev.x N.JE rfl rfl ?_;(repeat' ((first|(apply AH<;>intro hc<;>try (exfalso;omega))|apply AE|refine AD (h1 _) ?_|refine AD (h2 _) ?_|refine AD (h3 _ _) ?_|refine AD (h4 _ _) ?_)<;>conv=>whnf))
  first
   | exact CR (ZX (by omega))
   | exact CR (ZY (by omega))
   | exact CR (sC (by omega))
theorem yA (N:o0 L) (k:Nat) (hk:1<=k/\k<=68719476736) (n1 n2:Bool) (m1 d1 m2 d2:List Nat) (dw:Sm k m1) (gp:Sm k d1) (di:Sm k m2) (ln:Sm k d2) :
  Ev L 198 [.agg (rQ false false n1 m1 d1),.agg (rQ false false n2 m2 d2)] (.int .i64 (o9 (qv n1 m1 d1-qv n2 m2 d2).num)):=by
 obtain ⟨a1,a2,a3,w1,bg,s1,s2,s3,s4,s5⟩:=MI N.toa7 n1 m1 d1 k (by omega) dw gp;obtain ⟨b1,b2,b3,w2,af,t1,t2,t3,t4,t5⟩:=MI N.toa7 n2 m2 d2 k (by omega) di ln;rw[s5,t5,<-jM s3 t3];by_cases hw:w1=true/\w2=true
 ·obtain ⟨rfl,rfl⟩:=hw
  have hC:=λ q q'=>fK N a1 b1 q q' a2 b2 (s1.le (by omega)) (t1.le (by omega))
  rw[s4 rfl,t4 rfl];rw[show zv a1 a2*((1:Nat):Int)-zv b1 b2*((1:Nat):Int)=zv a1 a2-zv b1 b2 by omega];refine Ev.x N.H9 rfl rfl ?_;(repeat' ((first|apply F3|apply AE|refine AD (bg) ?_|refine AD (af) ?_|refine AD (hC _ _) ?_)<;>conv=>whnf))
  exact CR rfl
 ·have ep:=λ q q'=>O2 N.toa7 a1 false q q' a2 b3 s1.1 t2.1 (by have:=s1.2;have:=t2.2;omega)
  have ga:=λ q q'=>O2 N.toa7 b1 false q q' b2 a3 t1.1 s2.1 (by have:=t1.2;have:=s2.2;omega)
  have qj:=QE N.toa7 a3;have oa:=QE N.toa7 b3;have g1:Sm (k+k) (dg (zv a1 a2*zv false b3).natAbs):=PQ s1 t2;have g2:Sm (k+k) (dg (zv b1 b2*zv false a3).natAbs):=PQ t1 s2;have hC:=λ q q'=>fK N (decide (zv a1 a2*zv false b3<0)) (decide (zv b1 b2*zv false a3<0)) q q' _ _ (g1.le (by omega)) (g2.le (by omega))
  rw[ES,ES]at hC;rw[<-EB b3,<-EB a3];generalize zv a1 a2*zv false b3=x at *;generalize zv b1 b2*zv false a3=y at *;refine Ev.x N.H9 rfl rfl ?_;cases w1<;>cases w2
  ·(repeat' ((first|apply F3|apply OI|apply AE|refine AD (bg) ?_|refine AD (af) ?_|refine AD (qj) ?_|refine AD (oa) ?_|refine AD (ep _ _) ?_|refine AD (ga _ _) ?_|refine AD (hC _ _) ?_)<;>conv=>whnf))
   exact CR rfl
  ·(repeat' ((first|apply F3|apply OI|apply AE|refine AD (bg) ?_|refine AD (af) ?_|refine AD (qj) ?_|refine AD (oa) ?_|refine AD (ep _ _) ?_|refine AD (ga _ _) ?_|refine AD (hC _ _) ?_)<;>conv=>whnf))
   exact CR rfl
  ·(repeat' ((first|apply F3|apply OI|apply AE|refine AD (bg) ?_|refine AD (af) ?_|refine AD (qj) ?_|refine AD (oa) ?_|refine AD (ep _ _) ?_|refine AD (ga _ _) ?_|refine AD (hC _ _) ?_)<;>conv=>whnf))
   exact CR rfl
  ·exact absurd ⟨rfl,rfl⟩ hw
theorem XM (N:o0 L) {x y:Rat} {k l:Nat} (hx:Bt k x) (hy:Bt l y) (hk:k<2199023255552) (hl:l<2199023255552):Ev L 198 [.agg (eQ x),.agg (eQ y)] (.int .i64 (o9 (x-y).num)):=by
 have:=yA N 68719476736 (by omega) (decide (x.num<0)) (decide (y.num<0)) _ _ _ _ (hx.sm hk).1 (hx.sm hk).2 (hy.sm hl).1 (hy.sm hl).2
 rw[EM,EM]at this;exact this
theorem wY (N:o0 L) {x:Rat} {k:Nat} (hx:Bt k x) (hk:k<2199023255552):Ev L 199 [.agg (eQ x)] (.agg (eQ (-x))):=by
 have hF:=fI N.toz9 (decide (x.num<0)) (dg x.num.natAbs) (dg x.den);have hT:=λ q1 q2=>X0 N.toa7 (!decide (x.num<0)) q1 q2 _ _ ((hx.sm hk).1.le (by omega)) ((hx.sm hk).2.le (by omega))
 rw[kN,EM]at hT;refine Ev.x N.KR rfl rfl ?_;(repeat' ((first|apply bC|apply AE|refine AD (hF) ?_|refine AD (hT _ _) ?_)<;>conv=>whnf))
 exact AU rfl (C8 _)
theorem gB (N:o0 L) (q:Bool) (l:List Rat) (k:Nat) (hl:Bs k l) (hk:k<2199023255552) (hn:l.length<=1000000):Ev L 200 [.sl q (l.map eQ)] (.int .i64 ((GY l l.length:Int)-1)):=by
 refine Ev.x N.KN rfl rfl ?_;(repeat' (apply AE<;>conv=>whnf))
 refine G7 1000 N.KO rfl rfl ?_;(repeat' ((first|apply AW|apply AE)<;>conv=>whnf))
 refine CW (λ n=>n) (λ(n:Nat)=>n<=l.length/\GY l l.length=GY l n) (λ n=>[(3,.int .i64 n)]) (λ_=>[]) [] [] l.length (by (conv=>whnf);exact ⟨rfl,rfl,rfl⟩) ⟨Nat.le_refl _,rfl⟩ ?_;intro n ⟨p1,p2⟩ ih;have done : ∀ {n:Nat},GY l l.length=n->MO l=l.take n:=λ h=>by rw[MO,h]
 by_cases hz:n=0\/(∃ m x,n=m+1/\l[m]? = some x/\x≠0)
 ·have yj:GY l l.length=n:=by
   rw[p2];rcases hz with rfl|⟨m,x,rfl,h1,h2⟩
   ·rfl
   ·rw[GY,if_neg]
    rw[List.getD_eq_getElem?_getD,h1];exact h2
  have Rw:=done yj;have ix:(l.take n).length=n:=by rw[List.length_take];omega
  clear ih yj p2 done;rcases hz with h0|⟨m,x,Tz,h1,h2⟩
  case' inl=>(repeat' ((first|(apply AH<;>intro hc<;>try (exfalso;omega))|apply AE)<;>conv=>whnf))
  case' inr =>
   have qf:l[((n:Int)-1).toNat]? = some x:=by rw[show ((n:Int)-1).toNat=m by omega];exact h1
   have xu:=UJ N.toa7 (hl.at h1) (by omega);have hs:=PL (x:=x);generalize o9 x.num=s at *;have hS : ∀ v,l[((n:Int)-1).toNat]? = some v->Ev L 97 [.agg (eQ v)] (.int .i64 s):=λ v h=>by
    obtain rfl:=Option.some.inj (qf.symm.trans h);exact xu
   have ia:s≠0:=λ h=>h2 (hs.1 h)
   (repeat' ((first|(apply AH<;>intro hc<;>try (exfalso;omega))|(apply BX;omega)|(refine BJ (by assumption) ?_ rfl ?_;omega)|apply AE|refine AD (xu) ?_)<;>conv=>whnf))
  all_goals
   refine OM (enc:=eQ) (λ_=>rfl) p1 ?_;(conv=>whnf)
   skip
   refine ⟨rfl,_,rfl,?_⟩;(conv=>whnf)
   (repeat' ((first|(apply BX;omega)|apply AW)<;>conv=>whnf))
   have yk:GY l l.length=n:=by rw[<-mT,Rw,ix]
   rw[yk];exact CR (by rw[ix])
 ·obtain ⟨m,rfl⟩ : ∃ m,n=m+1:=⟨n-1,by omega⟩
  obtain ⟨x,hx⟩ : ∃ x,l[m]? = some x:=⟨_,zE (by omega)⟩;have qu:x=0:=by
   rcases Classical.em (x=0) with h|h
   ·exact h
   ·exact (hz (Or.inr ⟨m,x,rfl,hx,h⟩)).elim
  have oo:l[((m+1:Nat)-1:Int).toNat]? = some x:=by rw[show ((m+1:Nat)-1:Int).toNat=m by omega];exact hx
  have xu:=UJ N.toa7 (hl.at hx) (by omega);have hs:=PL (x:=x);generalize o9 x.num=s at *;have hS : ∀ v,l[((m+1:Nat)-1:Int).toNat]? = some v->Ev L 97 [.agg (eQ v)] (.int .i64 s):=λ v h=>by
   obtain rfl:=Option.some.inj (oo.symm.trans h);exact xu
  have ia:=hs.2 qu;(repeat' ((first|(apply AH<;>intro hc<;>try (exfalso;omega))|(apply BX;omega)|(refine BJ (by assumption) ?_ rfl ?_;omega)|apply AE|refine AD (xu) ?_)<;>conv=>whnf))
  rw[show ((m+1:Nat):Int)-1=(m:Int) by omega];exact BQ [] (ih m (by omega) ⟨by omega,by rw[p2,GY,if_pos (by rw[List.getD_eq_getElem?_getD,hx];exact qu)]⟩)
end Go.c4

namespace Go.c4
theorem oT {R:List (Option (Nat × List (List AV)))} {i e z:Nat} {es:List (List AV)} {K:Option (Nat × List (List AV))->Prop} (he:e=i) (hi:i<R.length) (h:K (some (z,es))):CD (R.set i (some (z,es))) e K:=by
 subst he;exact ⟨_,by rw[List.getElem?_set,if_pos rfl,if_pos hi],h⟩
theorem oS {R:List (Option (Nat × List (List AV)))} {i e z:Nat} {es:List (List AV)} {K:Nat->List (List AV)->Prop} (he:e=i) (hi:i<R.length) (h:K z es):B2 (R.set i (some (z,es))) e K:=by
 subst he;exact ⟨z,es,by rw[List.getElem?_set,if_pos rfl,if_pos hi],h⟩
theorem bR {R:List (Option (Nat × List (List AV)))} {i e z:Nat} {es:List (List AV)} {K:List (Option (Nat × List (List AV)))->Prop} (he:e=i) (hi:i<R.length) (h:K (R.set i (some (z,es)))):CH R e z es K:=by
 subst he;exact ⟨hi,h⟩
end Go.c4

namespace Go.c4
open F
attribute [local irreducible] AA AF AR AB B7 AQ AY A7 A6 BS AP BO BW C0 BL A0 BH BZ AC A4 AL pw CD B2 CH CX CS CK CI BI B8
variable {L:Lib}
set_option maxHeartbeats 16000000
def mz (Q:List (List Rat)) (n i:Nat):List (Option (Nat × List (List AV))):=fz none (FJ 3 eQ (Q.take i)) n
theorem Iw {Q:List (List Rat)} {n i:Nat} (hi:i<=n):(mz Q n i).length=n:=by
 refine YE ?_;simp only[FJ,List.length_map,List.length_take];omega
theorem Mj (Q:List (List Rat)) (n:Nat):mz Q n 0=List.replicate n none:=by simp [mz,fz]
theorem Mi {Q:List (List Rat)} {n i:Nat} {row:List Rat} (h:Q[i]? = some row) (hi:i<n):(mz Q n i).set i (some (3,row.map eQ))=mz Q n (i+1):=by
 have h1:=(zS h).1;have hl:(FJ 3 eQ (Q.take i)).length=i:=by simp only[FJ,List.length_map,List.length_take];omega
 have:=YF (z:=none) (l:=FJ 3 eQ (Q.take i)) (m:=n) (x:=some (3,row.map eQ)) (by omega)
 rw[hl]at this;rw[mz,this,mz,mO h];simp [FJ]
theorem Iv {Q:List (List Rat)} {n:Nat} (h:Q.length=n):mz Q n n=FJ 3 eQ Q:=by
 rw[mz,List.take_of_length_le (by omega)];exact YD (by simp [FJ,h])
def cz (row:List Rat) (n j:Nat):List Rat:=fz 0 (row.take j) n
theorem dI {row:List Rat} {n j:Nat} (hj:j<=n):(cz row n j).length=n:=by
 refine YE ?_;rw[List.length_take];omega
theorem dK (row:List Rat) (n:Nat):cz row n 0=List.replicate n 0:=by simp [cz,fz]
theorem dJ {row:List Rat} {n j:Nat} {x:Rat} (h:row[j]? = some x) (hj:j<n):(cz row n j).set j x=cz row n (j+1):=by
 have h1:=(zS h).1;have hl:(row.take j).length=j:=by rw[List.length_take];omega
 have:=YF (z:=(0:Rat)) (l:=row.take j) (m:=n) (x:=x) (by omega)
 rw[hl]at this;rw[cz,this,cz,mO h]
theorem dH {row:List Rat} {n:Nat} (h:row.length=n):cz row n n=row:=by
 rw[cz,List.take_of_length_le (by omega)];exact YD h
theorem yC (N:o0 L) (m:Nat) (hm:m<=65536):MR L 206 [.int .i64 (m:Int)] 3 ((List.replicate m (0:Rat)).map eQ):=by
 have hO:=JA N.toa7 0 (by omega);refine MR.x N.L0 rfl rfl ?_;(repeat' (apply AE<;>conv=>whnf))
 refine FF (enc:=eO) none m rfl rfl (by omega) ?_;(conv=>whnf)
 skip
 refine CW (λ i=>m-i) (λ(i:Nat)=>i<=m) (λ i=>[(8,.int .i64 i)]) (λ i=>[(6,6,.rw 3 ((F8 (List.replicate i 0) m).map eO))]) [] [] 0 (by first|exact (by (conv=>whnf);exact ⟨rfl,rfl,rfl⟩)|(rw[<-UP];exact (by (conv=>whnf);exact ⟨rfl,rfl,rfl⟩))) (by omega) ?_;intro i p1 ih;by_cases hi:i<m
 ·have hl:=UO (l:=List.replicate i (0:Rat)) (m:=m) (by simp;omega)
  have hs:=UQ (l:=List.replicate i (0:Rat)) (m:=m) (x:=0) (by simp;omega);rw[List.length_replicate]at hs;(repeat' ((first|(apply AH<;>intro hc<;>try (exfalso;omega))|(apply A9;omega)|apply AE|refine AD (hO) ?_)<;>conv=>whnf))
  refine NR (enc:=eO) (some 0) rfl (λ e=>by cases e<;>rfl) (by omega) ?_;(conv=>whnf)
  (repeat' ((first|(apply AZ;omega)|fail)<;>conv=>whnf))
  rw[hs];rw[show List.replicate i (0:Rat)++[0]=List.replicate (i+1) 0 by rw[List.replicate_succ']];exact BQ [] (ih (i+1) (by omega) (by omega))
 obtain rfl:i=m:=by omega
 clear ih;rw[UN (by simp)];(repeat' ((first|(apply AH<;>intro hc<;>try (exfalso;omega))|apply AE)<;>conv=>whnf))
 exact ⟨rfl,rfl,by simp,rfl,MZ _⟩
theorem X1 (N:o0 L) (q:Bool) (l:List Rat) (i:Int) (k:Nat) (h0:0<=i) (hl:Bs k l) (hk:k<2199023255552) (hn:l.length<=1000000):Ev L 205 [.sl q (l.map eQ),.int .i64 i] (.agg (eQ (l.getD i.toNat 0))):=by
 have hO:=JA N.toa7 0 (by omega);refine Ev.x N.LY rfl rfl ?_;by_cases hi:i<l.length
 ·obtain ⟨x,hx⟩ : ∃ x,l[i.toNat]? = some x:=⟨_,zE (by omega)⟩
  have hT:=gN N.toa7 (hl.at hx) hk;rw[YG hx];(repeat' ((first|(apply AH<;>intro hc<;>try (exfalso;omega))|apply AW|(refine BJ (by assumption) ?_ rfl ?_;omega)|apply AE|refine AD (hT) ?_)<;>conv=>whnf))
  exact AU rfl (C8 _)
 ·rw[yI (l:=l) (by omega)]
  (repeat' ((first|(apply AH<;>intro hc<;>try (exfalso;omega))|apply AW|apply AE|refine AD (hO) ?_)<;>conv=>whnf))
  exact AU rfl (C8 _)
theorem gL (N:o0 L) (q:Bool) (l:List Rat) (k:Nat) (ht:MO l=l) (hl:Bs k l) (hk:k<2199023255552) (hn:l.length<=1000000):Ev L 204 [.sl q (l.map eQ)] (.int .i64 ((l.length-1:Nat):Int)):=by
 refine Ev.x N.LZ rfl rfl ?_;(repeat' ((first|(apply BX;omega)|apply AW|apply AE)<;>conv=>whnf))
 refine F2 ?_;by_cases h2:l.length<=1
 ·(repeat' ((first|(apply AH<;>intro hc<;>try (exfalso;omega))|apply AE)<;>conv=>whnf))
  exact CR (by omega)
 ·obtain ⟨x,hx⟩ : ∃ x,l[l.length-1]? = some x:=⟨_,zE (by omega)⟩
  have oo:l[((l.length:Int)-1).toNat]? = some x:=by rw[show ((l.length:Int)-1).toNat=l.length-1 by omega];exact hx
  have Hk:=Ob ht (by omega);rw[YG hx]at Hk;have hS:=UJ N.toa7 (hl.at hx) hk;have hs:=PL (x:=x);generalize o9 x.num=s at *;have ia:s≠0:=λ h=>Hk (hs.1 h)
  (repeat' ((first|(apply AH<;>intro hc<;>try (exfalso;omega))|(refine BJ (by assumption) ?_ rfl ?_;omega)|apply AE|refine AD (hS) ?_)<;>conv=>whnf))
  exact CR (by omega)
theorem xZ (N:o0 L) (q1 q2:Bool) (B A:List Rat) (k:Nat) (hB:Bs k B) (hA:Bs k A) (hk:k<2199023255552) (lB:B.length<=49) (lA:A.length<=49) (h0:A[0]? = some 1):Ev L 201 [.agg [.sl q1 (B.map eQ),.sl q2 (A.map eQ)]] (.bool true):=by
 have c1:=RM B B.length;have c2:=RM A A.length;have kv:=gB N q1 B k hB hk (by omega);have lf:=gB N q2 A k hA hk (by omega);have hO:=JA N.toa7 1 (by omega);have hC:=XM N (Bt.one 1) (Bt.one 1) (by omega) (by omega);rw[lK.2 rfl]at hC;have Tp:0<A.length:=(zS h0).1;have qe:A[(0:Int).toNat]? = some 1:=h0;generalize GY B B.length=d1 at *;generalize GY A A.length=d2 at *;refine Ev.x N.LU rfl rfl ?_;(repeat' ((first|(apply AH<;>intro hc<;>try (exfalso;omega))|apply AW|(refine BJ (by assumption) ?_ rfl ?_;omega)|apply AE|refine AD (kv) ?_|refine AD (lf) ?_|refine AD (hO) ?_|refine AD (hC) ?_)<;>conv=>whnf))
 exact L6 rfl
theorem sN (B A:List Rat) (m:Nat):(D4 B A (m+1)).a.take 1=[(List.range (m+1)).map λ k => -(A.getD (k+1) 0)]:=by
 simp [D4,List.range_succ_eq_map]
theorem sO {B A:List Rat} {n i:Nat} (h1:1<=i) (hi:i<n):(D4 B A n).a[i]? = some (G6 n ((i-1:Nat):Int)):=by
 simp only[D4,List.getElem?_map,List.getElem?_range hi,Option.map_some];rw[if_neg (by omega)]
theorem dD {B A:List Rat} {n i:Nat} (hi:i<n):(D4 B A n).c[i]? = some (B.getD (i+1) 0-B.getD 0 0*A.getD (i+1) 0):=by
 simp only[D4,List.getElem?_map,List.getElem?_range hi,Option.map_some]
theorem sP (B A:List Rat) (m:Nat):(D4 B A (m+1)).c.take 1=[B.getD 1 0-B.getD 0 0*A.getD 1 0]:=by
 rw[List.take_add_one,dD (by omega)];rfl
theorem dC (B A:List Rat) (n:Nat):(D4 B A n).a.length=n:=by simp [D4]
theorem dE (B A:List Rat) (n:Nat):(D4 B A n).c.length=n:=by simp [D4]
theorem G5 {α:Type} {l:List α} {i:Nat} {x:α} (h:l[i]? = some x):l.take (i+1)=l.take i++[x]:=by
 rw[List.take_add_one,h];rfl
theorem rU (S:GH) (e:Int):A1 (.j4 [.agg (eS S),.int .i64 e]):=by
 have:=OU S
 simp only[A1,CM,true_and,and_true]at this ⊢;exact this
theorem wD (N:o0 L) (w1 w2:Bool) (B A:List Rat) (n k:Nat) (hB:MO B=B) (hA:MO A=A) (bB:Bs k B) (bA:Bs k A) (lB:B.length<=17) (lA:A.length<=17) (h0:A[0]? = some 1) (hn:max (B.length-1) (A.length-1)=n) (hk:k<=1000000) :
  Ev L 207 [.agg [.sl w1 (B.map eQ),.sl w2 (A.map eQ)]] (.j4 [.agg (eS (D4 B A n)),.int .i64 0]):=by
 have hV:=xZ N w1 w2 B A k bB bA (by omega) (by omega) (by omega) h0;have kv:=gL N w1 B k hB bB (by omega) (by omega);have lf:=gL N w2 A k hA bA (by omega) (by omega);have hO:=JA N.toa7 1 (by omega);have nj:=X1 N w1 B 0 k (by omega) bB (by omega) (by omega);rw[show B.getD (0:Int).toNat 0=B.getD 0 0 from rfl]at nj;have hZ:=yC N n (by omega);have Fm:Bt k (B.getD 0 0):=MJ bB 0;have vq : ∀ i:Nat,Ev L 205 [.sl w1 (B.map eQ),.int .i64 ((i:Int)+1)] (.agg (eQ (B.getD (i+1) 0)))/\Ev L 205 [.sl w2 (A.map eQ),.int .i64 ((i:Int)+1)] (.agg (eQ (A.getD (i+1) 0))) /\
   Ev L 99 [.agg (eQ (B.getD 0 0)),.agg (eQ (A.getD (i+1) 0))] (.agg (eQ (B.getD 0 0*A.getD (i+1) 0)))/\Ev L 150 [.agg (eQ (B.getD (i+1) 0)),.agg (eQ (B.getD 0 0*A.getD (i+1) 0))] (.agg (eQ (B.getD (i+1) 0-B.getD 0 0*A.getD (i+1) 0))) /\
   Ev L 199 [.agg (eQ (A.getD (i+1) 0))] (.agg (eQ (-(A.getD (i+1) 0)))):=λ i=>by
  have e1:=X1 N w1 B ((i:Int)+1) k (by omega) bB (by omega) (by omega);have e2:=X1 N w2 A ((i:Int)+1) k (by omega) bA (by omega) (by omega);rw[show ((i:Int)+1).toNat=i+1 by omega]at e1 e2;exact ⟨e1,e2,M6 N.toa7 Fm (MJ bA _) (by omega) (by omega),yE N.toz9 (MJ bB _) (Fm.mul (MJ bA _)) (by omega) (by omega),wY N (MJ bA _) (by omega)⟩
 have hd:(D4 B A n).d=B.getD 0 0:=rfl;have et:=dC B A n;have n6:=dE B A n;have jn:eS (D4 B A n)=[.sl false ((D4 B A n).a.map λ r=>[AV.sl false (r.map eQ)]),.sl false ((G6 n 0).map eQ),.sl false ((D4 B A n).c.map eQ)]++eQ (B.getD 0 0):=rfl;have az:=rU (D4 B A n) 0;rw[jn]at az ⊢;have Ge : ∀ i,1<=i->i<n->(D4 B A n).a[i]? = some (G6 n ((i-1:Nat):Int)):=λ i h1 h2=>sO h1 h2
 have yg : ∀ i,i<n->(D4 B A n).c[i]? = some (B.getD (i+1) 0-B.getD 0 0*A.getD (i+1) 0):=λ i h=>dD h
 have Az:0<n->(D4 B A n).a.take 1=[(List.range n).map λ k => -(A.getD (k+1) 0)]:=λ h=>by
  obtain ⟨m,rfl⟩ : ∃ m,n=m+1:=⟨n-1,by omega⟩;exact sN B A m
 have ud:0<n->(D4 B A n).c.take 1=[B.getD (0+1) 0-B.getD 0 0*A.getD (0+1) 0]:=λ h=>by
  obtain ⟨m,rfl⟩ : ∃ m,n=m+1:=⟨n-1,by omega⟩;exact sP B A m
 have gy : ∀ j,j<n->((List.range n).map λ k => -(A.getD (k+1) 0))[j]? = some (-(A.getD (j+1) 0)):=λ j h=>by
  rw[List.getElem?_map,List.getElem?_range h];rfl
 have zp:((List.range n).map λ k => -(A.getD (k+1) 0)).length=n:=by simp
 have ef : ∀ j,(G6 n j).length=n:=λ j=>aL n j
 generalize (D4 B A n).a=a at *;generalize (D4 B A n).c=c at *;generalize (List.range n).map (λ k => -(A.getD (k+1) 0))=r0 at *;generalize B.getD 0 0=b0 at *;rcases Nat.lt_or_ge (B.length-1) (A.length-1) with l6|gu
 ·rw[show A.length-1=n by omega]at lf l6
  refine Ev.x N.IE rfl rfl ?_;(repeat' ((first|(apply AH<;>intro hc<;>try (exfalso;omega))|apply AE|refine AD (hV) ?_|refine AD (kv) ?_|refine AD (lf) ?_|refine AD (nj) ?_)<;>conv=>whnf))
  refine L5 (enc:=eQ) n hZ (by simp) ?_;(conv=>whnf)
  by_cases rz:n=0
  ·skip
   exact absurd l6 (by omega)
  ·(repeat' ((first|(apply AH<;>intro hc<;>try (exfalso;omega))|(apply A9;omega)|refine AD (hO) ?_)<;>conv=>whnf))
   refine P4 (enc:=eQ) 0 1 rfl rfl (λ_=>rfl) (by simp;omega) ?_;(conv=>whnf)
   rw[show (List.replicate n (0:Rat)).set 0 1=G6 n 0 from VW n 0];skip
   refine F2 ?_;(repeat' ((first|(apply AH<;>intro hc<;>try (exfalso;omega))|apply AE)<;>conv=>whnf))
   refine L5 (enc:=eQ) n hZ (by simp) ?_;(conv=>whnf)
   (repeat' ((first|(apply AH<;>intro hc<;>try (exfalso;omega))|fail)<;>conv=>whnf))
   refine CW (λ j=>n-j) (λ(j:Nat)=>j<=n) (λ j=>[(50,.int .i64 j)]) (λ j=>[(41,41,.rw 3 ((cz r0 n j).map eQ))]) [] [] 0 (by first|exact (by (conv=>whnf);exact ⟨rfl,rfl,rfl⟩)|(rw[dK];exact (by (conv=>whnf);exact ⟨rfl,rfl,rfl⟩))) (by omega) ?_;intro j p1 ih;have nm:=dI (row:=r0) p1;by_cases hj:j<n
   ·have k6:=dJ (gy j hj) hj
    obtain ⟨f1,f2,f3,f4,f5⟩:=vq j;(repeat' ((first|(apply AH<;>intro hc<;>try (exfalso;omega))|(apply A9;omega)|(apply AZ;omega)|apply AE|refine AD (f2) ?_|refine AD (f5) ?_)<;>conv=>whnf))
    refine NR (enc:=eQ) (-(A.getD (j+1) 0)) rfl (λ_=>rfl) (by omega) ?_;(conv=>whnf)
    (repeat' ((first|(apply AZ;omega)|fail)<;>conv=>whnf))
    rw[k6];exact BQ [] (ih (j+1) (by omega) (by omega))
   obtain rfl:j=n:=by omega
   clear ih;rw[dH zp];obtain ⟨f1,f2,f3,f4,f5⟩:=vq 0;(repeat' ((first|(apply AH<;>intro hc<;>try (exfalso;omega))|apply AE)<;>conv=>whnf))
   refine A9 ⟨by rw[List.length_map];omega,by omega⟩ ?_;(conv=>whnf)
   (repeat' ((first|(apply AZ;omega)|apply EG|refine AD (nj) ?_|refine AD (f1) ?_|refine AD (f2) ?_|refine AD (f3) ?_|refine AD (f4) ?_)<;>conv=>whnf))
   refine P0 (enc:=eQ) (B.getD (0+1) 0-b0*A.getD (0+1) 0) rfl rfl (by omega) ?_;(conv=>whnf)
   (repeat' ((first|(apply AZ;omega)|fail)<;>conv=>whnf))
   refine CW (λ i=>j-i) (λ(i:Nat)=>1<=i/\i<=j) (λ i=>[(37,.int .i64 i)]) (λ i=>[(5,5,.bx ([.row 67 0 1 0 i,.row 28 0 3 0 j,.row 88 0 3 0 i]++eQ b0)),(67,67,.mx (FJ 3 eQ (a.take i))),(88,88,.rw 3 ((c.take i).map eQ))]) [] [] 1 (by first|exact (by (conv=>whnf);exact ⟨rfl,rfl,rfl⟩)|(rw[Az (by omega),ud (by omega)];exact (by (conv=>whnf);exact ⟨rfl,rfl,rfl⟩))) (by omega) ?_;intro i ⟨g1,g2⟩ ih;have ua:(a.take i).length=i:=by rw[List.length_take];omega
   have ue:(c.take i).length=i:=by rw[List.length_take];omega
   by_cases hi:i<j
   ·obtain ⟨f1,f2,f3,f4,f5⟩:=vq i
    have Eh:=G5 (Ge i g1 hi);have Ei:=G5 (yg i hi);have ub:(a.take (i+1)).length=i+1:=by rw[List.length_take];omega
    have uf:(c.take (i+1)).length=i+1:=by rw[List.length_take];omega
    have Er:=ef ((i-1:Nat):Int);(repeat' ((first|(apply AH<;>intro hc<;>try (exfalso;omega))|apply AE)<;>conv=>whnf))
    refine L5 (enc:=eQ) j hZ (by simp) ?_;(conv=>whnf)
    (repeat' ((first|(apply AH<;>intro hc<;>try (exfalso;omega))|(apply A9;omega)|(apply BX;omega)|refine AD (hO) ?_)<;>conv=>whnf))
    refine P4 (enc:=eQ) (i-1) 1 (by omega) rfl (λ_=>rfl) (by simp;omega) ?_;(conv=>whnf)
    rw[VW];skip
    refine A9 (by rw[List.length_map];omega) ?_;refine aS (r:=G6 j ((i-1:Nat):Int)) (en:=eQ) ua.symm (by omega) (by omega) ?_;rw[<-Eh,ub];(conv=>whnf)
    (repeat' ((first|(apply AZ;omega)|apply EG|refine AD (nj) ?_|refine AD (f1) ?_|refine AD (f2) ?_|refine AD (f3) ?_|refine AD (f4) ?_)<;>conv=>whnf))
    refine FA (enc:=eQ) (B.getD (i+1) 0-b0*A.getD (i+1) 0) rfl ue.symm rfl (by omega) (by omega) ?_;rw[<-Ei,uf];(conv=>whnf)
    (repeat' ((first|(apply AZ;omega)|fail)<;>conv=>whnf))
    exact BQ [(67,1000067),(88,1000088)] (ih (i+1) (by omega) (by omega))
   obtain rfl:i=j:=by omega
   clear ih;rw[List.take_of_length_le (Nat.le_of_eq et),List.take_of_length_le (Nat.le_of_eq n6)]at *;(repeat' ((first|(apply AH<;>intro hc<;>try (exfalso;omega))|apply AE)<;>conv=>whnf))
   refine TG (λ_=>rfl) rfl et.symm ?_;(conv=>whnf)
   refine DX (enc:=eQ) (λ_=>rfl) rfl (ef 0).symm ?_;(conv=>whnf)
   refine DX (enc:=eQ) (λ_=>rfl) rfl n6.symm ?_;(conv=>whnf)
   exact AU rfl az
 ·rw[show B.length-1=n by omega]at kv gu
  refine Ev.x N.IE rfl rfl ?_;(repeat' ((first|(apply AH<;>intro hc<;>try (exfalso;omega))|apply AE|refine AD (hV) ?_|refine AD (kv) ?_|refine AD (lf) ?_|refine AD (nj) ?_)<;>conv=>whnf))
  refine L5 (enc:=eQ) n hZ (by simp) ?_;(conv=>whnf)
  by_cases rz:n=0
  ·skip
   subst rz;(repeat' ((first|(apply AH<;>intro hc<;>try (exfalso;omega))|fail)<;>conv=>whnf))
   refine F2 ?_;(repeat' ((first|(apply AH<;>intro hc<;>try (exfalso;omega))|(refine DX (λ_=>rfl) rfl ?_ ?_;(first|rfl|simp))|apply AE)<;>conv=>whnf))
   rw[List.eq_nil_of_length_eq_zero et,List.eq_nil_of_length_eq_zero n6]at *;exact AU rfl az
  ·(repeat' ((first|(apply AH<;>intro hc<;>try (exfalso;omega))|(apply A9;omega)|refine AD (hO) ?_)<;>conv=>whnf))
   refine P4 (enc:=eQ) 0 1 rfl rfl (λ_=>rfl) (by simp;omega) ?_;(conv=>whnf)
   rw[show (List.replicate n (0:Rat)).set 0 1=G6 n 0 from VW n 0];skip
   refine F2 ?_;(repeat' ((first|(apply AH<;>intro hc<;>try (exfalso;omega))|apply AE)<;>conv=>whnf))
   refine L5 (enc:=eQ) n hZ (by simp) ?_;(conv=>whnf)
   (repeat' ((first|(apply AH<;>intro hc<;>try (exfalso;omega))|fail)<;>conv=>whnf))
   refine CW (λ j=>n-j) (λ(j:Nat)=>j<=n) (λ j=>[(50,.int .i64 j)]) (λ j=>[(41,41,.rw 3 ((cz r0 n j).map eQ))]) [] [] 0 (by first|exact (by (conv=>whnf);exact ⟨rfl,rfl,rfl⟩)|(rw[dK];exact (by (conv=>whnf);exact ⟨rfl,rfl,rfl⟩))) (by omega) ?_;intro j p1 ih;have nm:=dI (row:=r0) p1;by_cases hj:j<n
   ·have k6:=dJ (gy j hj) hj
    obtain ⟨f1,f2,f3,f4,f5⟩:=vq j;(repeat' ((first|(apply AH<;>intro hc<;>try (exfalso;omega))|(apply A9;omega)|(apply AZ;omega)|apply AE|refine AD (f2) ?_|refine AD (f5) ?_)<;>conv=>whnf))
    refine NR (enc:=eQ) (-(A.getD (j+1) 0)) rfl (λ_=>rfl) (by omega) ?_;(conv=>whnf)
    (repeat' ((first|(apply AZ;omega)|fail)<;>conv=>whnf))
    rw[k6];exact BQ [] (ih (j+1) (by omega) (by omega))
   obtain rfl:j=n:=by omega
   clear ih;rw[dH zp];obtain ⟨f1,f2,f3,f4,f5⟩:=vq 0;(repeat' ((first|(apply AH<;>intro hc<;>try (exfalso;omega))|apply AE)<;>conv=>whnf))
   refine A9 ⟨by rw[List.length_map];omega,by omega⟩ ?_;(conv=>whnf)
   (repeat' ((first|(apply AZ;omega)|apply EG|refine AD (nj) ?_|refine AD (f1) ?_|refine AD (f2) ?_|refine AD (f3) ?_|refine AD (f4) ?_)<;>conv=>whnf))
   refine P0 (enc:=eQ) (B.getD (0+1) 0-b0*A.getD (0+1) 0) rfl rfl (by omega) ?_;(conv=>whnf)
   (repeat' ((first|(apply AZ;omega)|fail)<;>conv=>whnf))
   refine CW (λ i=>j-i) (λ(i:Nat)=>1<=i/\i<=j) (λ i=>[(37,.int .i64 i)]) (λ i=>[(5,5,.bx ([.row 67 0 1 0 i,.row 28 0 3 0 j,.row 88 0 3 0 i]++eQ b0)),(67,67,.mx (FJ 3 eQ (a.take i))),(88,88,.rw 3 ((c.take i).map eQ))]) [] [] 1 (by first|exact (by (conv=>whnf);exact ⟨rfl,rfl,rfl⟩)|(rw[Az (by omega),ud (by omega)];exact (by (conv=>whnf);exact ⟨rfl,rfl,rfl⟩))) (by omega) ?_;intro i ⟨g1,g2⟩ ih;have ua:(a.take i).length=i:=by rw[List.length_take];omega
   have ue:(c.take i).length=i:=by rw[List.length_take];omega
   by_cases hi:i<j
   ·obtain ⟨f1,f2,f3,f4,f5⟩:=vq i
    have Eh:=G5 (Ge i g1 hi);have Ei:=G5 (yg i hi);have ub:(a.take (i+1)).length=i+1:=by rw[List.length_take];omega
    have uf:(c.take (i+1)).length=i+1:=by rw[List.length_take];omega
    have Er:=ef ((i-1:Nat):Int);(repeat' ((first|(apply AH<;>intro hc<;>try (exfalso;omega))|apply AE)<;>conv=>whnf))
    refine L5 (enc:=eQ) j hZ (by simp) ?_;(conv=>whnf)
    (repeat' ((first|(apply AH<;>intro hc<;>try (exfalso;omega))|(apply A9;omega)|(apply BX;omega)|refine AD (hO) ?_)<;>conv=>whnf))
    refine P4 (enc:=eQ) (i-1) 1 (by omega) rfl (λ_=>rfl) (by simp;omega) ?_;(conv=>whnf)
    rw[VW];skip
    refine A9 (by rw[List.length_map];omega) ?_;refine aS (r:=G6 j ((i-1:Nat):Int)) (en:=eQ) ua.symm (by omega) (by omega) ?_;rw[<-Eh,ub];(conv=>whnf)
    (repeat' ((first|(apply AZ;omega)|apply EG|refine AD (nj) ?_|refine AD (f1) ?_|refine AD (f2) ?_|refine AD (f3) ?_|refine AD (f4) ?_)<;>conv=>whnf))
    refine FA (enc:=eQ) (B.getD (i+1) 0-b0*A.getD (i+1) 0) rfl ue.symm rfl (by omega) (by omega) ?_;rw[<-Ei,uf];(conv=>whnf)
    (repeat' ((first|(apply AZ;omega)|fail)<;>conv=>whnf))
    exact BQ [(67,1000067),(88,1000088)] (ih (i+1) (by omega) (by omega))
   obtain rfl:i=j:=by omega
   clear ih;rw[List.take_of_length_le (Nat.le_of_eq et),List.take_of_length_le (Nat.le_of_eq n6)]at *;(repeat' ((first|(apply AH<;>intro hc<;>try (exfalso;omega))|apply AE)<;>conv=>whnf))
   refine TG (λ_=>rfl) rfl et.symm ?_;(conv=>whnf)
   refine DX (enc:=eQ) (λ_=>rfl) rfl (ef 0).symm ?_;(conv=>whnf)
   refine DX (enc:=eQ) (λ_=>rfl) rfl n6.symm ?_;(conv=>whnf)
   exact AU rfl az
theorem dA {a:List (List Rat)} {i j:Nat} {r:List Rat} {x:Rat} (hr:a[j]? = some r) (hx:r[i]? = some x):(CY a i)[j]? = some x:=by
 simp only[CY,List.getElem?_map,hr,Option.map_some,YG hx]
theorem sR {B A:List Rat} {n:Nat} : ∀ r∈(D4 B A n).a,r.length=n:=by
 intro r hr;simp only[D4,List.mem_map]at hr;obtain ⟨i,_,rfl⟩:=hr;split
 ·simp
 ·exact aL _ _
theorem bF {R:List (Option (Nat × List (List AV)))} {e:Nat} {r:Option (Nat × List (List AV))} {K:Option (Nat × List (List AV))->Prop} (h:R[e]? = some r) (hk:K r):CD R e K:=by
 unfold CD;exact ⟨r,h,hk⟩
end Go.c4



namespace Go.c4
open F
attribute [local irreducible] AA AF AR AB B7 AQ AY A7 A6 BS AP BO BW C0 BL A0 BH BZ AC A4 AL pw CD B2 CH CX CS CK CI BI B8
variable {L:Lib}
set_option maxHeartbeats 8000000
theorem Ll {X:List Rat} {n j:Nat} (h:j*n+n<=X.length):(N7 X n j).length=n:=by
 simp only[N7,List.length_drop,List.length_take];omega
theorem mN (l:List Int) (n:Nat):(IG l n).Ok n 4:=by
 have hX:=PI l (n*n+2*n+1);have hb:=kP l (n*n+2*n+1);have mem : ∀ (i j:Nat) (x:Rat),x∈((E6 l (n*n+2*n+1)).take j).drop i->Bt 4 x:=λ i j x hx=>hb x (List.mem_of_mem_take (List.mem_of_mem_drop hx))
 have hr : ∀ r∈ID (E6 l (n*n+2*n+1)) n n,∃ j,j<n/\r=N7 (E6 l (n*n+2*n+1)) n j:=λ r hr=>by
  simp only[ID,List.mem_map,List.mem_range]at hr;obtain ⟨j,h1,rfl⟩:=hr;exact ⟨j,h1,rfl⟩
 refine ⟨by simp [IG,ID],?_,?_,?_,?_,λ x hx=>mem _ _ x hx,λ x hx=>mem _ _ x hx,?_⟩
 ·intro r h
  obtain ⟨j,h1,rfl⟩:=hr r h;refine Ll ?_;have:=Nat.mul_le_mul_right n (show j+1<=n by omega)
  rw[Nat.succ_mul]at this;omega
 ·simp only[IG,List.length_drop,List.length_take];omega
 ·simp only[IG,List.length_drop,List.length_take];omega
 ·intro r h x hx
  obtain ⟨j,h1,rfl⟩:=hr r h;exact mem _ _ x hx
 ·show Bt 4 ((E6 l (n*n+2*n+1)).getD (n*n+2*n) 0)
  rw[List.getD_eq_getElem?_getD];cases e:(E6 l (n*n+2*n+1))[n*n+2*n]? with
  | none=>exact Bt.zero 4
  | some x=>exact hb.at e
theorem GH.Ok.le {S:GH} {n k j:Nat} (h:S.Ok n k) (hj:k<=j):S.Ok n j:=⟨h.la,h.lr,h.lb,h.lc,λ r hr=>(h.ba r hr).le hj,h.bb.le hj,h.bc.le hj,h.bd.le hj⟩
end Go.c4



namespace Go.c4
open F
attribute [local irreducible] AA AF AR AB B7 AQ AY A7 A6 BS AP BO BW C0 BL A0 BH BZ AC A4 AL pw CD B2 CH CX CS CK CI BI B8
variable {L:Lib}
set_option maxHeartbeats 8000000
set_option maxRecDepth 8000
end Go.c4

namespace Go.c4
set_option maxHeartbeats 4000000
theorem Y4 (x:Rat):x.num<0↔x<0:=by rw[<-Int.not_le,Rat.num_nonneg,Rat.not_le]
theorem TL (x:Rat):CJ x=if x<0 then -x else x:=by
 unfold CJ;by_cases h:x<0
 ·rw[if_pos h,if_pos ((Y4 x).2 h)]
 ·rw[if_neg h,if_neg (λ e=>h ((Y4 x).1 e))]
theorem WD (x y:Rat):CJ (x*y)=CJ x*CJ y:=by
 have pp : ∀ a b:Rat,0<=a->0<=b->0<=a*b:=λ a b=>Rat.mul_nonneg
 rw[TL,TL,TL];by_cases hx:x<0
 ·by_cases hy:y<0
  ·have h:=pp (-x) (-y) (by grind) (by grind)
   rw[if_pos hx,if_pos hy,if_neg (by rw[Rat.not_lt];grind)];grind
  ·have h:=pp (-x) y (by grind) (by grind)
   rw[if_pos hx,if_neg hy];by_cases h0:x*y<0
   ·rw[if_pos h0];grind
   ·rw[if_neg h0];grind
 ·by_cases hy:y<0
  ·have h:=pp x (-y) (by grind) (by grind)
   rw[if_neg hx,if_pos hy];by_cases h0:x*y<0
   ·rw[if_pos h0];grind
   ·rw[if_neg h0];grind
  ·have h:=pp x y (by grind) (by grind)
   rw[if_neg hx,if_neg hy,if_neg (by grind)]
theorem WE {x:Rat} (h:0<=x):CJ x=x:=by
 rw[TL,if_neg (by grind)]
def BG:List Rat->Rat
 | []=>0
 | x::l=>CJ x+BG l
theorem lN (x:Rat) : ∀ l,BG (l++[x])=BG l+CJ x
 | []=>by simp only[List.nil_append,BG];grind
 | y::l=>by
  simp only[List.cons_append,BG,lN x l];grind
theorem VK {c:Rat} (hc:0<=c) : ∀ l,BG (l.map (· * c))=BG l*c
 | []=>by simp only[List.map_nil,BG];grind
 | x::l=>by
  simp only[List.map_cons,BG,VK hc l,WD,WE hc];grind
def JB (m x:Rat):Rat:=if m<CJ x then CJ x else m
def C1 (l:List Rat):Rat:=l.foldl JB 0
theorem yO (l:List Rat) (x:Rat):C1 (l++[x])=JB (C1 l) x:=by rw[C1,List.foldl_append];rfl
theorem yM {c:Rat} (hc:0<c) (m x:Rat):JB (m*c) (x*c)=JB m x*c:=by
 unfold JB;rw[WD,WE (show 0<=c by grind)];by_cases h:m<CJ x
 ·rw[if_pos h,if_pos ((Rat.mul_lt_mul_right hc).2 h)]
 ·rw[if_neg h,if_neg (λ h1=>h ((Rat.mul_lt_mul_right hc).1 h1))]
theorem hJ {c:Rat} (hc:0<c) : ∀ (l:List Rat) (m:Rat),(l.map (· * c)).foldl JB (m*c)=l.foldl JB m*c
 | [],_=>rfl
 | x::l,m=>by rw[List.map_cons,List.foldl_cons,List.foldl_cons,yM hc,hJ hc l]
theorem yN {c:Rat} (hc:0<c) (l:List Rat):C1 (l.map (· * c))=C1 l*c:=by
 have:=hJ hc l 0
 rwa [Rat.zero_mul]at this
def DP (a:List (List Rat)):Bool:=a.all λ r=>decide (BG r<=1/2)
def B1 (n:Nat) (a:List (List Rat)):Nat->List (List Rat)
 | 0=>a
 | k+1=>FI (B1 n a k) (B1 n a k) n
theorem OB {n:Nat} {a:List (List Rat)} (h:Sq n a) : ∀ k,Sq n (B1 n a k)
 | 0=>h
 | k+1=>Sq.mul (OB h k).l _
def B4 (c:Rat) (a:List (List Rat)):List (List Rat):=a.map λ r=>r.map (· * c)
theorem Z0 (c:Rat) (a:List (List Rat)):(B4 c a).length=a.length:=by simp [B4]
theorem VM {n:Nat} (c:Rat) {a:List (List Rat)} (h : ∀ r∈a,r.length=n) : ∀ r∈B4 c a,r.length=n:=λ r hr=>by
 obtain ⟨s,hs,rfl⟩:=List.mem_map.1 hr;rw[List.length_map];exact h s hs
theorem lP {n:Nat} (c:Rat) {a:List (List Rat)} (h:Sq n a):Sq n (B4 c a):=⟨by rw[Z0,h.l],VM c h.r⟩
theorem Mh {c:Rat} {a:List (List Rat)} {i:Nat} {r:List Rat} (h:a[i]? = some r):(B4 c a)[i]? = some (r.map (· * c)):=by rw[B4,List.getElem?_map,h];rfl
theorem yK (r:List Rat) (c:Rat) (j:Nat):(r.map (· * c)).getD j 0=r.getD j 0*c:=by
 rw[List.getD_eq_getElem?_getD,List.getD_eq_getElem?_getD,List.getElem?_map];cases r[j]? with
 | none=>simp [Rat.zero_mul]
 | some x=>rfl
theorem sE (c:Rat) (a:List (List Rat)) (j:Nat):CY (B4 c a) j=(CY a j).map (· * c):=by
 rw[CY,CY,B4,List.map_map,List.map_map];exact List.map_congr_left λ r _=>yK r c j
theorem XB (c d:Rat) (u v:List Rat):BP (u.map (· * c)) (v.map (· * d))=BP u v*(c*d):=by
 rw[XA,W9,XA,W9];grind
theorem Ip (c d:Rat) (a b:List (List Rat)) (n:Nat):FI (B4 c a) (B4 d b) n=B4 (c*d) (FI a b n):=by
 show (a.map λ r=>r.map (· * c)).map (λ r=>ER r (B4 d b) n)=(a.map λ r=>ER r b n).map (λ r=>r.map (· * (c*d)));rw[List.map_map,List.map_map];refine List.map_congr_left λ r _ => ?_
 show ER (r.map (· * c)) (B4 d b) n=(ER r b n).map (· * (c*d));rw[ER,ER,List.map_map];refine List.map_congr_left λ j _ => ?_
 show BP (r.map (· * c)) (CY (B4 d b) j)=BP r (CY b j)*(c*d);rw[sE,XB]
theorem Is (c d:Rat) (a:List (List Rat)) (v:List Rat):FS (B4 c a) (v.map (· * d))=(FS a v).map (· * (c*d)):=by
 show (a.map λ r=>r.map (· * c)).map (λ r=>BP r (v.map (· * d)))=(a.map λ r=>BP r v).map (· * (c*d));rw[List.map_map,List.map_map];exact List.map_congr_left λ r _=>XB c d r v
def DI (D:Rat):Nat->Rat
 | 0=>D
 | i+1=>DI D i*DI D i
theorem W6 {D:Rat} (h:0<D) : ∀ i,0<DI D i
 | 0=>h
 | i+1=>Rat.mul_pos (W6 h i) (W6 h i)
theorem mE (n:Nat) (a:List (List Rat)) (D:Rat) (i:Nat):FI (B4 (DI D i) (B1 n a i)) (B4 (DI D i) (B1 n a i)) n=B4 (DI D (i+1)) (B1 n a (i+1)):=Ip _ _ _ _ _
theorem iF {s D:Rat} (hD:0<D):s*D+s*D<=D↔s<=1/2:=by
 have e:s*D+s*D=(s+s)*D:=by grind
 have h1:(s+s)*D<=1*D↔s+s<=1:=⟨λ h=>Rat.le_of_mul_le_mul_right h hD,λ h=>Rat.mul_le_mul_of_nonneg_right h (by grind)⟩;rw[Rat.one_mul]at h1;rw[e,h1];constructor<;>intro h<;>grind
theorem nA {k:Nat} {x:Rat} (hx:Bt k x) {S:Nat} {z:Int} (hz:x*(S:Rat)=(z:Rat)) {M:Nat} (hS:S<=2^M):Wh (k+M) (x*(S:Rat)):=by
 refine ⟨z,hz,?_⟩;have h1:=PC x;have h2:((z*(x.den:Int):Int):Rat)=((x.num*(S:Int):Int):Rat):=by
  rw[Rat.intCast_mul,Rat.intCast_mul,<-h1,<-hz,Rat.intCast_natCast,Rat.intCast_natCast];grind
 have h3:=congrArg Int.natAbs (Rat.intCast_inj.1 h2);rw[Int.natAbs_mul,Int.natAbs_mul,Int.natAbs_natCast,Int.natAbs_natCast]at h3;have h4:z.natAbs<=z.natAbs*x.den:=Nat.le_mul_of_pos_right _ x.den_pos;rw[Nat.pow_add];exact Nat.le_trans h4 (by rw[h3];exact Nat.mul_le_mul hx.1 hS)
theorem Ma (S:Nat) (x:Rat):((S:Rat)*x).den ∣ x.den:=by
 refine WZ (z:=S*x.num) ?_;have h:=PC x;rw[Rat.intCast_mul,<-h,Rat.intCast_natCast];grind
theorem lI {k:Nat} : ∀ (l:List Rat) (S:Nat),0<S->Bs k l -> ∃ S':Nat,l.foldl ST (S:Rat)=(S':Rat)/\0<S'/\S'<=S*2^(l.length*k)/\S ∣ S' /\ ∀ x∈l,∃ z:Int,x*(S':Rat)=(z:Rat)
 | [],S,h,_=>⟨S,rfl,h,by simp,Nat.dvd_refl S,λ x hx=>by cases hx⟩
 | x::l,S,h,hb=>by
  have h1:=Ma S x;have hx:=hb x List.mem_cons_self;have h2:((S:Rat)*x)*((((S:Rat)*x).den:Nat):Rat)=(((S:Rat)*x).num:Rat):=PC _;have h3:=Nat.le_of_dvd x.den_pos h1;have h4:=((S:Rat)*x).den_pos;generalize ((S:Rat)*x).num=u at h2;obtain ⟨S',e,p1,p2,p3,p4⟩:=lI l (S*((S:Rat)*x).den) (Nat.mul_pos h h4) λ y hy=>hb y (List.mem_cons_of_mem _ hy)
  refine ⟨S',by rw[List.foldl_cons,<-e,ST,Rat.natCast_mul],p1,?_,Nat.dvd_trans (Nat.dvd_mul_right _ _) p3,λ y hy => ?_⟩
  ·have h5:S*((S:Rat)*x).den<=S*2^k:=Nat.mul_le_mul_left S (Nat.le_trans h3 hx.2)
   have h6:=Nat.mul_le_mul_right (2^(l.length*k)) h5;rw[List.length_cons,Nat.succ_mul,Nat.pow_add,Nat.mul_comm (2^(l.length*k)),<-Nat.mul_assoc];exact Nat.le_trans p2 h6
  ·rcases List.mem_cons.1 hy with rfl|hy
   ·obtain ⟨t,rfl⟩:=p3
    refine ⟨u*(t:Int),?_⟩;rw[Rat.natCast_mul,Rat.natCast_mul,Rat.intCast_mul,<-h2,Rat.intCast_natCast];grind
   ·exact p4 y hy
theorem ZV {k:Nat} {l:List Rat} (hb:Bs k l) : ∃ S:Nat,HO l=(S:Rat)/\0<S/\S<=2^(l.length*k) /\ ∀ x∈l,∃ z:Int,x*(S:Rat)=(z:Rat):=by
 obtain ⟨S,e,h1,h2,_,h3⟩:=lI l 1 (by omega) hb;exact ⟨S,e,h1,by rwa [Nat.one_mul]at h2,h3⟩
theorem tE (S:Nat) (x:Rat):((S:Rat)/(x.den:Rat)).den=((S:Rat)*x).den:=by
 have mi:(x.den:Rat)≠0:=λ e=>by
  have:((x.den:Nat):Rat)=((0:Nat):Rat):=e
  have:=Rat.natCast_inj.1 this
  have:=x.den_pos
  omega
 have hx:=PC x;refine Nat.dvd_antisymm ?_ ?_
 ·-- e=(S x).den: e S num/d whole,so d ∣ e S
  have h1:=PC ((S:Rat)*x);generalize hE:((S:Rat)*x).den=E at *;generalize ((S:Rat)*x).num=u at h1;have h2:(((E*S:Nat):Int)*x.num:Int)=u*(x.den:Int):=by
   refine Rat.intCast_inj.1 ?_;rw[Rat.intCast_mul,Rat.intCast_mul,<-hx,<-h1,Rat.intCast_natCast,Rat.intCast_natCast,Rat.natCast_mul];grind
  have h3:x.den ∣ E*S*x.num.natAbs:=by
   have h4:(x.den:Int) ∣ ((E*S:Nat):Int)*x.num:=⟨u,by rw[h2,Int.mul_comm]⟩;have:=Int.natAbs_dvd_natAbs.2 h4
   rw[Int.natAbs_mul,Int.natAbs_natCast,Int.natAbs_natCast]at this;exact this
  obtain ⟨t,ht⟩:=Nat.Coprime.dvd_of_dvd_mul_right (Nat.Coprime.symm x.reduced) h3;refine WZ (z:=t) ?_;have h5:((E*S:Nat):Rat)=((x.den*t:Nat):Rat):=congrArg _ ht;rw[Rat.natCast_mul,Rat.natCast_mul]at h5;rw[Rat.div_def,<-Rat.mul_assoc,h5,Rat.intCast_natCast];have:=Rat.mul_inv_cancel _ mi
  grind
 ·have h1:=PC ((S:Rat)/(x.den:Rat))
  generalize ((S:Rat)/(x.den:Rat)).num=u at h1;generalize ((S:Rat)/(x.den:Rat)).den=E at *;refine WZ (z:=u*x.num) ?_;rw[Rat.intCast_mul,<-h1,<-hx,Rat.div_def];have:=Rat.mul_inv_cancel _ mi
  grind
end Go.c4
