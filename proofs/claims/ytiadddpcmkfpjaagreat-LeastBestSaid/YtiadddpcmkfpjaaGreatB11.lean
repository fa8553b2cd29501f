/-
  Natural numbers (layer 1): greatest common divisors.
-/
import Derived.Test.YtiadddpcmkfpjaaGreatB10
import Derived.Test.YtiadddpcmkfpjaaGreatB8
import Derived.Test.YtiadddpcmkfpjaaGreatB9
import Derived.Test.YtiadddpcmkfpjaaGreatB4
import Derived.Test.YtiadddpcmkfpjaaGreatB3
import Derived.Test.YtiadddpcmkfpjaaGreatB1
set_option linter.unusedSimpArgs false
set_option linter.unusedVariables false
set_option linter.unnecessarySimpa false
namespace Go.Eng
open F
attribute [local irreducible] AKM CmpP Req OpP UnP ConvP RdP LdR StR MkR LenP AppR AppN CpyR RowP SnR Bds SlS CallP CalP FinP pw LdM GetM SetM PutM MkM AppM SnM FlP CallR
set_option maxHeartbeats 4000000
variable {L:Lib}
theorem OpP.shr32 {k':IntKind} {a:Int} {K:AV→Prop} (hk:K (.int .i64 (a/4294967296))):OpP .shr .i64 a k' 32 K:=by
 refine OpP.shr (by omega) ?_
 have:pw 32=4294967296:=by decide +kernel
 rw[this];exact hk
theorem ConvP.i32 {t:Int} {K:Int→Prop} (hk:K (cmD t:Int)):ConvP .u32 t K:=by
 unfold ConvP
 rw[IntKind.wrap_u32,←cmD_eq];exact hk
section
variable {k':IntKind} {a b:Nat} {K:AV→Prop}
theorem OpP.shlm {i:Nat} (hi:i<2) (ha:a<4294967296) (hk:K (.int .u64 ((a*4294967296^i:Nat):Int))):OpP .shl .u64 (a:Int) k' (32*(i:Int)) K:=by
 rcases i with _|_|i
 ·exact OpP.sh8 (s:=0) (by omega) (by omega) hk
 ·exact OpP.sh8 (s:=32) (by omega) (by omega) hk
 ·omega
end
theorem int_mul_bd {x y M N:Int} (hx : -M≤x∧x≤M) (hy : -N≤y∧y≤N) : -(M*N)≤x*y∧x*y≤M*N:=by
 have h1:x.natAbs≤M.natAbs:=by omega
 have h2:y.natAbs≤N.natAbs:=by omega
 have h3:=Nat.mul_le_mul h1 h2
 rw[←Int.natAbs_mul,←Int.natAbs_mul]at h3
 have h4:0≤M*N:=Int.mul_nonneg (by omega) (by omega)
 omega
theorem ev_nat_DivMod (N:NatGLib L) (a b:List Nat) (q1 q2:Bool) (hA:Dig a) (hB:Dig b) (la:a.length≤549755813888) (lb:b.length≤549755813888) (h0:val b≠0) :
  Ev L 75 [.sl q1 (a.map e32),.sl q2 (b.map e32)] (.tup [.sl false ((dg (val a/val b)).map e32),.sl false ((dg (val a%val b)).map e32),.int .i64 0]):=by
 have l1:=dg_len_val hA
 have l2:=dg_len_val hB
 have hp:=dg_len_pos h0
 refine Ev.x N.nat_DivMod rfl rfl ?_
 (repeat' (first|(refine CmpP.go (fun hc => ?_) (fun hc => ?_)<;>first|(exfalso;omega)|(conv=>whnf))|(refine LenP.go ?_;conv=>whnf)|(refine AKM.x ?_;conv=>whnf)|(refine CalP.ro (ro_cut N a _ hA (by omega)) ?_;conv=>whnf)|(refine CalP.ro (ro_cut N b _ hB (by omega)) ?_;conv=>whnf)|(refine CallP.go (ev_nat_divide N _ _ _ _ h0 (by omega) (by omega)) ?_;conv=>whnf)))
 refine FinP.go rfl ?_
 simp only[Clean,CleanL,and_true,true_and]
 exact ⟨cl_dig _,cl_dig _⟩
theorem ev_nat_small (N:NatGLib L) (V:Nat) (q:Bool) (hl:(dg V).length≤2):Ev L 76 [.sl q ((dg V).map e32)] (.int .u64 (V:Int)):=by
 have hV:=dg_len_le.1 hl
 have hD:=dig_dg V
 have hv:=val_dg V
 refine Ev.x N.nat_small rfl rfl ?_
 generalize dg V=l at *
 (repeat' (first|(refine LenP.go ?_;conv=>whnf)|(refine AKM.x ?_;conv=>whnf)))
 refine AKM.loop2 (fun i _=>l.length-i) (fun (i:Nat) (a:Nat)=>i≤l.length∧a=val (l.take i)) (fun i a=>[(3,.int .u64 (a:Int)),(8,.int .i64 i)]) (fun _ _=>[]) [] [] 0 0 (by (conv=>whnf);exact ⟨rfl,rfl,rfl⟩) ⟨by omega,rfl⟩ ?_
 intro i a ⟨p1,p2⟩ ih
 by_cases hi:i<l.length
 ·obtain ⟨d,hd⟩ : ∃ d,l[i]? = some d:=⟨_,zE hi⟩
  have hdb:=hD.at hd
  have h1:=val_take_succ hd
  have h2:=val_lt (hD.take i)
  have h3:=val_lt (hD.take (i+1))
  rw[List.length_take,Nat.min_eq_left (by omega)]at h2 h3
  have h4:4294967296^(i+1)≤4294967296^2:=Nat.pow_le_pow_right (by omega) (by omega)
  (repeat' (first|(refine CmpP.go (fun hc => ?_) (fun hc => ?_)<;>first|(exfalso;omega)|(conv=>whnf))|(refine OpP.mul ?_ ?_;omega;conv=>whnf)|(refine ConvP.u64 ?_ ?_;omega;conv=>whnf)|(refine RdP.at (by assumption) ?_ rfl ?_;omega;conv=>whnf)|(refine AKM.x ?_;conv=>whnf)))
  refine OpP.shlm (by omega) hdb ?_
  (conv=>whnf)
  rw[Nat.mul_comm d]
  refine OpP.nor8r (32*i) (by rw[Nat.pow_mul];exact Nat.mul_mod_right _ _) (by rw[Nat.pow_mul,p2];exact h2) (by omega) ?_
  (conv=>whnf)
  (repeat' (refine OpP.add ?_ ?_;omega;conv=>whnf))
  exact AKM.back [] (by (conv=>whnf);exact ⟨rfl,rfl,rfl⟩) (ih (i+1) _ (by omega) ⟨by omega,by rw[h1,p2]⟩)
 ·obtain rfl:i=l.length:=by omega
  clear ih
  (repeat' (first|(refine CmpP.go (fun hc => ?_) (fun hc => ?_)<;>first|(exfalso;omega)|(conv=>whnf))|(refine AKM.x ?_;conv=>whnf)))
  rw[val_take_all (Nat.le_refl _)]at p2
  exact FinP.i (by omega)
theorem CalP.fix {f:Nat} {vs:List AV} {tm:Tm} {M:Mem} {K:AV→Mem→Prop} {v:AV} (h:CalP L f vs tm M (fun r M'=>r=v∧M'=M)) (hk:K v M):CalP L f vs tm M K:=by
 unfold CalP at h ⊢
 intro σ own hs
 obtain ⟨r,own',σ',M',h1,h2,h3,rfl,rfl⟩:=h σ own hs
 exact ⟨_,own',σ',_,h1,h2,h3,hk⟩
theorem ev_nat_leading (N:NatGLib L) (a:List Nat) (q:Bool) (n s:Nat) (hD:Dig a) (hn:3≤n) (hl:a.length≤n) (hn2:n≤549755813888) (hs:s≤31) (hlt:val a*2^s<4294967296^n) :
  Ev L 78 [.sl q (a.map e32),.int .i64 (n:Int),.int .u64 (s:Int)] (.int .i64 ((val a/leadK n s:Nat):Int)):=by
 have b1:=getD_lt hD (n-1)
 have b2:=getD_lt hD (n-2)
 have b3:=getD_lt hD (n-3)
 have hfit:=lead_fits hD hn hl rfl rfl hlt
 have heq:=lead_eq (s:=s) hD hn hl hs rfl rfl rfl
 obtain ⟨f1,f2,f3,f4⟩:=sh_facts (s:=s) b3 (by omega)
 refine Ev.x N.nat_leading rfl rfl ?_
 (repeat' (first|(refine Req.go ?_ ?_;omega;conv=>whnf)|(refine OpP.sub ?_ ?_;omega;conv=>whnf)|(refine AKM.x ?_;conv=>whnf)))
 refine CalP.fix (v := .int .u64 ((a.getD (n-1) 0:Nat):Int)) ?_ ?_
 ·refine CalP.walk 1000 N.nat_leading_1 rfl rfl ?_
  (repeat' (first|(refine CmpP.go (fun hc => ?_) (fun hc => ?_)<;>first|(exfalso;omega)|(conv=>whnf))|(refine ConvP.u64 ?_ ?_;omega;conv=>whnf)|(refine LenP.go ?_;conv=>whnf)|(refine RdP.digi (by assumption) ?_ (fun e he hb => ?_);omega;conv=>whnf)|(refine AKM.x ?_;conv=>whnf)))
  ·refine ⟨rfl,_,rfl,?_,rfl⟩
   rw[show ((n:Int)-1).toNat=n-1 by omega]at he
   rw[getD_is he];rfl
  ·refine ⟨rfl,_,rfl,?_,rfl⟩
   rw[←getD_none (show a.length≤n-1 by omega)];rfl
 (conv=>whnf)
 (repeat' (first|(refine Req.go ?_ ?_;omega;conv=>whnf)|(refine OpP.sub ?_ ?_;omega;conv=>whnf)|(refine OpP.nshl32 ?_ ?_;omega;conv=>whnf)))
 refine CalP.fix (v := .int .u64 ((a.getD (n-2) 0:Nat):Int)) ?_ ?_
 ·refine CalP.walk 1000 N.nat_leading_1 rfl rfl ?_
  (repeat' (first|(refine CmpP.go (fun hc => ?_) (fun hc => ?_)<;>first|(exfalso;omega)|(conv=>whnf))|(refine ConvP.u64 ?_ ?_;omega;conv=>whnf)|(refine LenP.go ?_;conv=>whnf)|(refine RdP.digi (by assumption) ?_ (fun e he hb => ?_);omega;conv=>whnf)|(refine AKM.x ?_;conv=>whnf)))
  ·refine ⟨rfl,_,rfl,?_,rfl⟩
   rw[show ((n:Int)-2).toNat=n-2 by omega]at he
   rw[getD_is he];rfl
  ·refine ⟨rfl,_,rfl,?_,rfl⟩
   rw[←getD_none (show a.length≤n-2 by omega)];rfl
 (conv=>whnf)
 generalize a.getD (n-1) 0=d1 at *
 generalize a.getD (n-2) 0=d2 at *
 (repeat' (refine OpP.nor ?_ ?_;omega;conv=>whnf))
 refine OpP.sh8 (by omega) hfit ?_
 (conv=>whnf)
 generalize hT:(d1*4294967296+d2)*2^s=T at *
 (repeat' (first|(refine Req.go ?_ ?_;omega;conv=>whnf)|(refine OpP.sub ?_ ?_;omega;conv=>whnf)))
 refine CalP.fix (v := .int .u64 ((a.getD (n-3) 0:Nat):Int)) ?_ ?_
 ·refine CalP.walk 1000 N.nat_leading_1 rfl rfl ?_
  (repeat' (first|(refine CmpP.go (fun hc => ?_) (fun hc => ?_)<;>first|(exfalso;omega)|(conv=>whnf))|(refine ConvP.u64 ?_ ?_;omega;conv=>whnf)|(refine LenP.go ?_;conv=>whnf)|(refine RdP.digi (by assumption) ?_ (fun e he hb => ?_);omega;conv=>whnf)|(refine AKM.x ?_;conv=>whnf)))
  ·refine ⟨rfl,_,rfl,?_,rfl⟩
   rw[show ((n:Int)-3).toNat=n-3 by omega]at he
   rw[getD_is he];rfl
  ·refine ⟨rfl,_,rfl,?_,rfl⟩
   rw[←getD_none (show a.length≤n-3 by omega)];rfl
 (conv=>whnf)
 generalize a.getD (n-3) 0=d3 at *
 skip
 refine OpP.sh8 (by omega) f4 ?_
 (conv=>whnf)
 (repeat' (refine OpP.nshr32 ?_;conv=>whnf))
 rw[shHi_def]at f2
 refine OpP.nor8 s (by rw[←hT];exact Nat.mul_mod_left _ _) f2 (by have:=mul_room (k:=d1*4294967296+d2) (show s≤64 by omega) (by omega);omega) ?_
 (conv=>whnf)
 (repeat' (first|(refine OpP.nshr2 ?_;conv=>whnf)|(refine ConvP.i64 ?_ ?_;omega;conv=>whnf)))
 rw[heq]
 exact FinP.i rfl
theorem ev_nat_cofactors (N:NatGLib L) (P Q:Int) (hP:0≤P∧P≤4611686018427387904) (hQ:0≤Q∧Q≤4611686018427387904) : ∃ r,Ev L 79 [.int .i64 P,.int .i64 Q] r ∧ ∃ a b c d:Int,(LSg a b c d∧(-2147483647≤a∧a≤2147483647)∧(-2147483647≤b∧b≤2147483647)∧(-2147483647≤c∧c≤2147483647)∧(-2147483647≤d∧d≤2147483647))∧(b≠0→LGood P Q a b c d)∧r = .tup [.int .i64 a,.int .i64 b,.int .i64 c,.int .i64 d]:=by
 refine Ev.xE N.nat_cofactors rfl rfl ?_
 (repeat' (refine AKM.x ?_;conv=>whnf))
 refine AKM.loop6 (fun _ _ _ _ _ q=>(q+2147483648).toNat) (fun (a b c d p q:Int)=>LInv P Q a b c d p q∧((-2147483647≤a∧a≤2147483647)∧(-2147483647≤b∧b≤2147483647)∧(-2147483647≤c∧c≤2147483647)∧(-2147483647≤d∧d≤2147483647))∧(p≤4611686018427387904∧q≤4611686018427387904)∧LHalf P Q a b c d∧(b≠0→LGood P Q a b c d)) (fun a b c d p q=>[(0,.int .i64 p),(1,.int .i64 q),(4,.int .i64 a),(5,.int .i64 b),(6,.int .i64 c),(7,.int .i64 d)]) (fun _ _ _ _ _ _=>[]) [] [] 1 0 0 1 P Q (by (conv=>whnf);exact ⟨rfl,rfl,rfl⟩) ⟨LInv.start hP.1 hQ.1,by omega,by omega,LHalf.start P Q,fun h=>absurd rfl h⟩ ?_
 intro a b c d p q ⟨p1,⟨⟨p2,p2'⟩,⟨p3,p3'⟩,⟨p4,p4'⟩,⟨p5,p5'⟩⟩,⟨p6,p7⟩,p8,p9⟩ ih
 have g1:=p1.pa
 have g2:=p1.pb
 have g3:=p1.qc
 have g4:=p1.qd
 by_cases hc0:q+c=0
 ·(repeat' (first|(refine CmpP.go (fun hc => ?_) (fun hc => ?_)<;>first|(exfalso;omega)|(conv=>whnf))|(refine OpP.add ?_ ?_;omega;conv=>whnf)|(refine AKM.x ?_;conv=>whnf)))
  refine ⟨.tup [.int .i64 a,.int .i64 b,.int .i64 c,.int .i64 d],?_,a,b,c,d,⟨p1.sg,by omega⟩,p9,rfl⟩
  (conv=>whnf)
  exact FinP.go rfl (by simp [Clean,CleanL])
 by_cases hd0:q+d=0
 ·(repeat' (first|(refine CmpP.go (fun hc => ?_) (fun hc => ?_)<;>first|(exfalso;omega)|(conv=>whnf))|(refine OpP.add ?_ ?_;omega;conv=>whnf)|(refine AKM.x ?_;conv=>whnf)))
  refine ⟨.tup [.int .i64 a,.int .i64 b,.int .i64 c,.int .i64 d],?_,a,b,c,d,⟨p1.sg,by omega⟩,p9,rfl⟩
  (conv=>whnf)
  exact FinP.go rfl (by simp [Clean,CleanL])
 by_cases hff:(p+a)/(q+c)=(p+b)/(q+d)
 ·obtain ⟨s1,s2,s3,s4⟩:=p1.step hc0 hd0 rfl hff
  have s5:=s4 p8
  have s6:=s5.half
  have s7:=s1.qc
  by_cases hfl:2147483647<(p+a)/(q+c)
  ·(repeat' (first|(refine CmpP.go (fun hc => ?_) (fun hc => ?_)<;>first|(exfalso;omega)|(conv=>whnf))|(refine OpP.add ?_ ?_;omega;conv=>whnf)|(refine OpP.quo ?_ ?_ (fun _ => ?_) (fun _ _ => ?_);omega;omega;all_goals first|(exfalso;omega)|(conv=>whnf))|(refine AKM.x ?_;conv=>whnf)))
   refine ⟨.tup [.int .i64 a,.int .i64 b,.int .i64 c,.int .i64 d],?_,a,b,c,d,⟨p1.sg,by omega⟩,p9,rfl⟩
   (conv=>whnf)
   exact FinP.go rfl (by simp [Clean,CleanL])
  ·have t1:=int_mul_bd (x:=(p+a)/(q+c)) (y:=c) (M:=2147483647) (N:=2147483647) (by omega) (by omega)
   have t2:=int_mul_bd (x:=(p+a)/(q+c)) (y:=d) (M:=2147483647) (N:=2147483647) (by omega) (by omega)
   (repeat' (first|(refine CmpP.go (fun hc => ?_) (fun hc => ?_)<;>first|(exfalso;omega)|(conv=>whnf))|(refine OpP.add ?_ ?_;omega;conv=>whnf)|(refine OpP.sub ?_ ?_;omega;conv=>whnf)|(refine OpP.mul ?_ ?_;omega;conv=>whnf)|(refine OpP.quo ?_ ?_ (fun _ => ?_) (fun _ _ => ?_);omega;omega;all_goals first|(exfalso;omega)|(conv=>whnf))|(refine UnP.neg ?_ ?_;omega;conv=>whnf)|(refine AKM.x ?_;conv=>whnf)))
   all_goals first
    | exact AKM.back [] (by (conv=>whnf);exact ⟨rfl,rfl,rfl⟩) (ih _ _ _ _ _ _ (by omega) ⟨s1,by omega,by omega,s6,fun _=>s5⟩)
    |(refine ⟨.tup [.int .i64 a,.int .i64 b,.int .i64 c,.int .i64 d],?_,a,b,c,d,⟨p1.sg,by omega⟩,p9,rfl⟩
      (conv=>whnf)
      exact FinP.go rfl (by simp [Clean,CleanL]))
 ·(repeat' (first|(refine CmpP.go (fun hc => ?_) (fun hc => ?_)<;>first|(exfalso;omega)|(conv=>whnf))|(refine OpP.add ?_ ?_;omega;conv=>whnf)|(refine OpP.quo ?_ ?_ (fun _ => ?_) (fun _ _ => ?_);omega;omega;all_goals first|(exfalso;omega)|(conv=>whnf))|(refine AKM.x ?_;conv=>whnf)))
  refine ⟨.tup [.int .i64 a,.int .i64 b,.int .i64 c,.int .i64 d],?_,a,b,c,d,⟨p1.sg,by omega⟩,p9,rfl⟩
  (conv=>whnf)
  exact FinP.go rfl (by simp [Clean,CleanL])
theorem ev_nat_combine (N:NatGLib L) (x y:List Nat) (q1 q2:Bool) (f g:Int) (hX:Dig x) (hY:Dig y) (hl:y.length≤x.length) (lx:x.length≤549755813888) (hs:CSg f g) (R:Nat) (hR:(R:Int)=f*val x+g*val y) (hR2:R≤val x) :
  Ev L 80 [.sl q1 (x.map e32),.sl q2 (y.map e32),.int .i64 f,.int .i64 g] (.sl false ((dg R).map e32)):=by
 refine Ev.x N.nat_combine rfl rfl ?_
 (repeat' (first|(refine LenP.go ?_;conv=>whnf)|(refine AKM.x ?_;conv=>whnf)))
 refine MkR.go (enc:=e32) 0 x.length rfl rfl (by omega) ?_
 (conv=>whnf)
 (repeat' (refine LenP.go ?_;conv=>whnf))
 refine AKM.loop3 (fun i _ _=>x.length-i) (fun (i:Nat) (o:List Nat) (c:Int)=>i≤x.length∧o.length=x.length∧Dig o ∧ -2147483648≤c∧c≤2147483648∧(val (o.take i):Int)+((4294967296^i:Nat):Int)*c=f*val (x.take i)+g*val (y.take i)) (fun i o c=>[(10,.int .i64 c),(19,.int .i64 i)]) (fun i o c=>[(16,16,.rw 1 (o.map e32))]) [] [] 0 (List.replicate x.length 0) 0 (by (conv=>whnf);exact ⟨rfl,rfl,rfl⟩) ⟨by omega,by simp,dig_zeros _,by omega,by omega,by simp [val]⟩ ?_
 intro i o c ⟨p1,p2,p3,p4,p5,p6⟩ ih
 by_cases hi:i<x.length
 ·obtain ⟨d,hd⟩ : ∃ d,x[i]? = some d:=⟨_,zE hi⟩
  have hdb:=hX.at hd
  have h1:=val_take_succ hd
  by_cases hy:i<y.length
  ·obtain ⟨e,he⟩ : ∃ e,y[i]? = some e:=⟨_,zE hy⟩
   have heb:=hY.at he
   have h2:=val_take_succ he
   obtain ⟨r1,r2,r3⟩:=hs.rng hdb heb
   have hst:=cm_step (d:=d) (e:=e) p6 rfl
   (repeat' (first|(refine CmpP.go (fun hc => ?_) (fun hc => ?_)<;>first|(exfalso;omega)|(conv=>whnf))|(refine OpP.add ?_ ?_;omega;conv=>whnf)|(refine OpP.mul ?_ ?_;omega;conv=>whnf)|(refine ConvP.i64 ?_ ?_;omega;conv=>whnf)|(refine LenP.go ?_;conv=>whnf)|(refine RdP.at (by assumption) ?_ rfl ?_;omega;conv=>whnf)|(refine AKM.x ?_;conv=>whnf)))
   generalize htt:f * ↑d+c+g * ↑e=t at *
   refine ConvP.i32 ?_
   (conv=>whnf)
   (repeat' (first|(refine Req.go ?_ ?_;omega;conv=>whnf)|fail))
   refine StR.dig (by omega) ?_
   (conv=>whnf)
   refine OpP.shr32 ?_
   (conv=>whnf)
   (repeat' (refine OpP.add ?_ ?_;omega;conv=>whnf))
   refine AKM.back [] (by (conv=>whnf);exact ⟨rfl,rfl,rfl⟩) (ih (i+1) _ _ (by omega) ⟨by omega,by simpa using p2,p3.set _ (cmD_lt t),by omega,by omega,?_⟩)
   rw[val_set_take (by omega),h1,h2,Nat.pow_succ]
   simp only[Int.natCast_add,Int.natCast_mul,cmD_eq]
   exact hst
  ·have h2:=val_take_end (y:=y) (i:=i) (by omega)
   obtain ⟨r1,r2,r3⟩:=hs.rng (e:=0) hdb (by omega)
   have hst:=cm_step (d:=d) (e:=0) p6 rfl
   rw[Int.mul_zero,Int.add_zero]at hst
   have r4 : -9223372030412324865≤f*(d:Int)∧f*(d:Int)≤9223372030412324865:=r1
   (repeat' (first|(refine CmpP.go (fun hc => ?_) (fun hc => ?_)<;>first|(exfalso;omega)|(conv=>whnf))|(refine OpP.add ?_ ?_;omega;conv=>whnf)|(refine OpP.mul ?_ ?_;omega;conv=>whnf)|(refine ConvP.i64 ?_ ?_;omega;conv=>whnf)|(refine LenP.go ?_;conv=>whnf)|(refine RdP.at (by assumption) ?_ rfl ?_;omega;conv=>whnf)|(refine AKM.x ?_;conv=>whnf)))
   generalize htt:f * ↑d+c=t at *
   refine ConvP.i32 ?_
   (conv=>whnf)
   (repeat' (first|(refine Req.go ?_ ?_;omega;conv=>whnf)|fail))
   refine StR.dig (by omega) ?_
   (conv=>whnf)
   refine OpP.shr32 ?_
   (conv=>whnf)
   (repeat' (refine OpP.add ?_ ?_;omega;conv=>whnf))
   refine AKM.back [] (by (conv=>whnf);exact ⟨rfl,rfl,rfl⟩) (ih (i+1) _ _ (by omega) ⟨by omega,by simpa using p2,p3.set _ (cmD_lt t),by omega,by omega,?_⟩)
   rw[val_set_take (by omega),h1,h2,Nat.pow_succ]
   simp only[Int.natCast_add,Int.natCast_mul,cmD_eq]
   rw[Int.mul_zero,Int.add_zero]at hst
   exact hst
 ·obtain rfl:i=x.length:=by omega
  clear ih
  rw[val_take_all (by omega),val_take_all (Nat.le_refl _),val_take_all (by omega)]at p6
  have hov:=val_lt p3
  have hxv:=val_lt hX
  rw[p2]at hov
  have hVR:val o=R:=by
   have:=cm_end hov p6 (by omega) (by omega)
   omega
  have hl1:=dg_len_val p3
  rw[←p2,←hVR]
  (repeat' (first|(refine CmpP.go (fun hc => ?_) (fun hc => ?_)<;>first|(exfalso;omega)|(conv=>whnf))|(refine AKM.x ?_;conv=>whnf)|(refine CalP.cutR N (by assumption) (by omega) rfl (by first|rfl|omega|assumption) ?_;conv=>whnf)))
  refine SnR.part (enc:=e32) (fun _=>rfl) (by omega) ?_
  (conv=>whnf)
  refine FinP.go ?_ (by simp only[Clean,true_and];exact cl_dig _)
  rw[List.drop_zero,take_dg p3]
theorem ev_nat_shorten (N:NatGLib L) (X Y:Nat) (hXY:Y≤X) (hy:3≤(dg Y).length) (lx:(dg X).length≤549755813888) : ∃ r,Ev L 81 [.sl false ((dg X).map e32),.sl false ((dg Y).map e32)] r ∧ ∃ A B:Nat,(B<Y∧B≤A∧A≤X∧Nat.gcd A B=Nat.gcd X Y)∧r = .tup [.sl false ((dg A).map e32),.sl false ((dg B).map e32)]:=by
 have hY0:Y≠0:=fun h=>by rw[h,dg_zero]at hy;simp at hy
 have hX0:X≠0:=by omega
 have hlen:=dg_len_mono hXY
 have hdv:=fun q q'=>ev_nat_divide N X Y q q' hY0 lx (by omega)
 have d1:=dig_dg X
 have d2:=dig_dg Y
 have v1:=val_dg X
 have v2:=val_dg Y
 obtain ⟨xt,hxt,hxt0⟩:=dg_top hX0
 have hxtb:=d1.at hxt
 obtain ⟨b1,b2,b3,b4⟩:=lz_top hxt0 hxtb
 have hlz:=ev_LZ32 N xt hxtb
 generalize hs:32-blen xt=s at *
 have hs31:s≤31:=by omega
 obtain ⟨n1,n2⟩:=lift_norm d1 hxt (by omega) hs31 b3 b4
 have hcb:=fun (f g:Int) (R:Nat) (hs:CSg f g) (h1:(R:Int)=f*val (dg X)+g*val (dg Y)) (h2:R≤val (dg X)) (q q':Bool)=>ev_nat_combine N (dg X) (dg Y) q q' f g d1 d2 (by omega) lx hs R h1 h2
 have n3:val (dg Y)*2^s<4294967296^(dg X).length:=Nat.lt_of_le_of_lt (Nat.mul_le_mul_right _ (by omega)) n1
 have hl1:=fun q=>ev_nat_leading N (dg X) q (dg X).length s d1 (by omega) (by omega) lx hs31 n1
 have hl2:=fun q=>ev_nat_leading N (dg Y) q (dg X).length s d2 (by omega) (by omega) lx hs31 n3
 have hK:=leadK_pos (dg X).length s
 obtain ⟨e1,x1,x2,x3⟩:=lead_part (V:=X) hK
 obtain ⟨e2,y1,y2,y3⟩:=lead_part (V:=Y) hK
 rw[v1]at hl1
 rw[v2]at hl2
 have hq1:=lead_le d1 (n:=(dg X).length) (by omega) (by omega) hs31 n1
 have hq2:=lead_le d2 (n:=(dg X).length) (by omega) (by omega) hs31 n3
 rw[v1]at hq1
 rw[v2]at hq2
 generalize leadK (dg X).length s=K at *
 generalize X/K=P at *
 generalize Y/K=Q at *
 rw[v1,v2]at hcb
 obtain ⟨rc,hrc,a,b,c,d,⟨z1,z2,z3,z4,z5⟩,z6,rfl⟩:=ev_nat_cofactors N (P:Int) (Q:Int) (by omega) (by omega)
 have e1:(((dg X).length:Int)-1).toNat=(dg X).length-1:=by omega
 rw[←e1]at hxt
 refine Ev.xE N.nat_shorten rfl rfl ?_
 by_cases hb:b=0
 ·(repeat' (first|(refine CmpP.go (fun hc => ?_) (fun hc => ?_)<;>first|(exfalso;omega)|(conv=>whnf))|(refine OpP.sub ?_ ?_;omega;conv=>whnf)|(refine ConvP.u64 ?_ ?_;omega;conv=>whnf)|(refine LenP.go ?_;conv=>whnf)|(refine RdP.at (by assumption) ?_ rfl ?_;omega;conv=>whnf)|(refine AKM.x ?_;conv=>whnf)|(refine CallP.go (hlz) ?_;conv=>whnf)|(refine CallP.go (hl1 _) ?_;conv=>whnf)|(refine CallP.go (hl2 _) ?_;conv=>whnf)|(refine CallP.go (hrc) ?_;conv=>whnf)|(refine CallP.go (hdv _ _) ?_;conv=>whnf)))
  refine ⟨_,?_,Y,X%Y,⟨Nat.mod_lt _ (by omega),Nat.le_of_lt (Nat.mod_lt _ (by omega)),hXY,gcd_mod_step X Y⟩,rfl⟩
  (conv=>whnf)
  exact FinP.go rfl (cl_pair _ _)
 ·obtain ⟨g1,g2,g3,g4⟩:=z6 hb (X:Int) (Y:Int) (K:Int) _ _ (by omega) x1 y1 x2 x3 y2 y3
  obtain ⟨A,hA⟩:=Int.eq_ofNat_of_zero_le (show 0≤a*X+b*Y by omega)
  obtain ⟨B,hB⟩:=Int.eq_ofNat_of_zero_le g1
  have s1:CSg a b:=by rcases z1 with ⟨h1,h2,h3,h4⟩|⟨h1,h2,h3,h4⟩<;>unfold CSg<;>omega
  have s2:CSg c d:=by rcases z1 with ⟨h1,h2,h3,h4⟩|⟨h1,h2,h3,h4⟩<;>unfold CSg<;>omega
  (repeat' (first|(refine CmpP.go (fun hc => ?_) (fun hc => ?_)<;>first|(exfalso;omega)|(conv=>whnf))|(refine OpP.sub ?_ ?_;omega;conv=>whnf)|(refine ConvP.u64 ?_ ?_;omega;conv=>whnf)|(refine LenP.go ?_;conv=>whnf)|(refine RdP.at (by assumption) ?_ rfl ?_;omega;conv=>whnf)|(refine AKM.x ?_;conv=>whnf)|(refine CallP.go (hlz) ?_;conv=>whnf)|(refine CallP.go (hl1 _) ?_;conv=>whnf)|(refine CallP.go (hl2 _) ?_;conv=>whnf)|(refine CallP.go (hrc) ?_;conv=>whnf)|(refine CallP.go (hcb a b A s1 hA.symm (by omega) _ _) ?_;conv=>whnf)|(refine CallP.go (hcb c d B s2 hB.symm (by omega) _ _) ?_;conv=>whnf)))
  rw[hA,hB]at g4
  rw[hA,hB]at g2
  refine ⟨_,?_,A,B,⟨by omega,by omega,by omega,by simpa using g4⟩,rfl⟩
  (conv=>whnf)
  exact FinP.go rfl (cl_pair _ _)
theorem gcd_main (N:NatGLib L) (X Y:Nat) (hXY:Y≤X) (lx:(dg X).length≤549755813888) :
 AKM L [It.lp nat_Gcd.l1,It.blk 0,
   It.code
    ((((ACode.ops nat_Gcd.r6 false).dr [23,30,31] []).seq
       (ACode.cond 32 (((ACode.ops nat_Gcd.r7 false).dr [5,6,32,33] []).seq ACode.ret) ACode.skip)).seq
     (((ACode.ops nat_Gcd.r8 false).dr [5,7,32,34,35,36,37,38,39] []).seq
      (((ACode.ops nat_Gcd.r9 false).dr [6,8,40,41,42,43] []).seq
       ((ACode.block 2 nat_Gcd.l2.loop).seq
        (((ACode.ops nat_Gcd.r12 false).dr [9,10,45,50,51,52,53,54,55,56] []).seq ACode.ret)))))]
  [(6,AV.sl false (List.map e32 (dg Y))),(5,AV.sl false (List.map e32 (dg X)))] []
  (RetX nat_Gcd (AV.sl false (List.map e32 (dg (X.gcd Y))))):=by
 refine AKM.loop2 (fun _ y=>y) (fun (x y:Nat)=>y≤x∧(dg x).length≤549755813888∧Nat.gcd x y=Nat.gcd X Y) (fun x y=>[(6,AV.sl false (List.map e32 (dg y))),(5,AV.sl false (List.map e32 (dg x)))]) (fun _ _=>[]) [] [] X Y (by (conv=>whnf);exact ⟨rfl,rfl,rfl⟩) ⟨hXY,lx,rfl⟩ ?_
 intro x y ⟨p1,p2,p3⟩ ih
 rw[←p3]at ih ⊢
 generalize Nat.gcd X Y=G at *
 clear hXY lx
 subst p3
 have hlen:=dg_len_mono p1
 by_cases h3:3≤(dg y).length
 ·obtain ⟨r,hr,A,B,⟨k1,k2,k3,k4⟩,rfl⟩:=ev_nat_shorten N x y p1 h3 p2
  have k5:=dg_len_mono k3
  (repeat' (first|(refine CmpP.go (fun hc => ?_) (fun hc => ?_)<;>first|(exfalso;omega)|(conv=>whnf))|(refine LenP.go ?_;conv=>whnf)|(refine AKM.x ?_;conv=>whnf)|(refine CallP.go (hr) ?_;conv=>whnf)))
  exact AKM.back [] (by (conv=>whnf);exact ⟨rfl,rfl,rfl⟩) (ih A B k1 ⟨k2,by omega,k4⟩)
 ·clear ih
  by_cases h0:y=0
  ·subst h0
   have hl0:(dg 0).length=0:=by rw[dg_zero];rfl
   (repeat' (first|(refine CmpP.go (fun hc => ?_) (fun hc => ?_)<;>first|(exfalso;omega)|(conv=>whnf))|(refine LenP.go ?_;conv=>whnf)|(refine AKM.x ?_;conv=>whnf)))
   rw[Nat.gcd_zero_right]
   exact FinP.go rfl (by simp only[Clean,true_and];exact cl_dig _)
  ·have hp:=dg_len_pos h0
   have hm:=dg_len_mono (Nat.le_of_lt (Nat.mod_lt x (show y>0 by omega)))
   have hd:=fun q q'=>ev_nat_divide N x y q q' h0 p2 (by omega)
   have hs1:=fun q=>ev_nat_small N y q (by omega)
   have hs2:=fun q=>ev_nat_small N (x%y) q (by omega)
   have hb:y<18446744073709551616:=dg_len_le.1 (show (dg y).length≤2 by omega)
   have hml:x%y<y:=Nat.mod_lt _ (by omega)
   rw[←gcd_mod_step x y]
   (repeat' (first|(refine CmpP.go (fun hc => ?_) (fun hc => ?_)<;>first|(exfalso;omega)|(conv=>whnf))|(refine LenP.go ?_;conv=>whnf)|(refine AKM.x ?_;conv=>whnf)|(refine CallP.go (hd _ _) ?_;conv=>whnf)|(refine CallP.go (hs1 _) ?_;conv=>whnf)|(refine CallP.go (hs2 _) ?_;conv=>whnf)))
   refine AKM.loop2 (fun _ q=>q) (fun (p q:Nat)=>p<18446744073709551616∧q<18446744073709551616∧Nat.gcd p q=Nat.gcd y (x%y)) (fun p q=>[(9,.int .u64 (p:Int)),(10,.int .u64 (q:Int))]) (fun _ _=>[]) [] [] y (x%y) (by (conv=>whnf);exact ⟨rfl,rfl,rfl⟩) ⟨hb,by omega,rfl⟩ ?_
   intro p q ⟨g1,g2,g3⟩ ih
   rw[←g3]at ih ⊢
   by_cases hq:q=0
   ·subst hq
    clear ih
    obtain ⟨v1,v2⟩:=dg2 g1
    rw[Nat.gcd_zero_right]
    have hl1:=dg_len_val v2
    have ht:=take_dg v2
    rw[v1]at hl1 ht
    (repeat' (first|(refine CmpP.go (fun hc => ?_) (fun hc => ?_)<;>first|(exfalso;omega)|(conv=>whnf))|(refine OpP.nshr32 ?_;conv=>whnf)|(refine ConvP.n32i ?_ ?_;omega;conv=>whnf)|(refine ConvP.n32 ?_;conv=>whnf)|(refine AKM.x ?_;conv=>whnf)))
    generalize p%4294967296=lo at *
    generalize p/4294967296=hi at *
    refine CalP.cutR N v2 (by simp) rfl rfl ?_
    rw[v1]
    (conv=>whnf)
    skip
    refine SnR.part (enc:=e32) (l:=[lo,hi]) (fun _=>rfl) (by omega) ?_
    (conv=>whnf)
    refine FinP.go ?_ (by simp only[Clean,true_and];exact cl_dig _)
    rw[List.drop_zero,ht]
   ·have hpq:p%q<q:=Nat.mod_lt _ (by omega)
    (repeat' (first|(refine CmpP.go (fun hc => ?_) (fun hc => ?_)<;>first|(exfalso;omega)|(conv=>whnf))|(refine OpP.nrem ?_ ?_;omega;conv=>whnf)|(refine AKM.x ?_;conv=>whnf)))
    exact AKM.back [] (by (conv=>whnf);exact ⟨rfl,rfl,rfl⟩) (ih q (p%q) hpq ⟨g2,by omega,gcd_mod_step p q⟩)
theorem ev_nat_Gcd (N:NatGLib L) (a b:List Nat) (q1 q2:Bool) (hA:Dig a) (hB:Dig b) (la:a.length≤549755813888) (lb:b.length≤549755813888) :
  Ev L 82 [.sl q1 (a.map e32),.sl q2 (b.map e32)] (.sl false ((dg (Nat.gcd (val a) (val b))).map e32)):=by
 have t1:=fun q=>ev_Trim N a q hA (by omega)
 have t2:=fun q=>ev_Trim N b q hB (by omega)
 have l1:=dg_len_val hA
 have l2:=dg_len_val hB
 have hcmp:=fun q q'=>ev_nat_Compare N (dg (val a)) (dg (val b)) q q' (dig_dg _) (dig_dg _) (by omega) (by omega)
 rw[val_dg,val_dg]at hcmp
 generalize val a=X at *
 generalize val b=Y at *
 refine Ev.x N.nat_Gcd rfl rfl ?_
 by_cases hlt:X<Y
 ·have hn:cmpS X Y = -1:=(cmpS_lt (by omega)).symm
  rw[hn]at hcmp
  (repeat' (first|(refine CmpP.go (fun hc => ?_) (fun hc => ?_)<;>first|(exfalso;omega)|(conv=>whnf))|(refine AKM.x ?_;conv=>whnf)|(refine CallP.go (t1 _) ?_;conv=>whnf)|(refine CallP.go (t2 _) ?_;conv=>whnf)|(refine CallP.go (hcmp _ _) ?_;conv=>whnf)))
  rw[Nat.gcd_comm]
  exact AKM.back [] (by (conv=>whnf);exact ⟨rfl,rfl,rfl⟩) (gcd_main N Y X (by omega) (by omega))
 ·have hge:0≤cmpS X Y:=by unfold cmpS;split<;>(try split)<;>omega
  generalize cmpS X Y=cm at *
  (repeat' (first|(refine CmpP.go (fun hc => ?_) (fun hc => ?_)<;>first|(exfalso;omega)|(conv=>whnf))|(refine AKM.x ?_;conv=>whnf)|(refine CallP.go (t1 _) ?_;conv=>whnf)|(refine CallP.go (t2 _) ?_;conv=>whnf)|(refine CallP.go (hcmp _ _) ?_;conv=>whnf)))
  exact AKM.back [] (by (conv=>whnf);exact ⟨rfl,rfl,rfl⟩) (gcd_main N X Y (by omega) (by omega))
end Go.Eng
namespace Go.Eng
open F
attribute [local irreducible] AKM CmpP Req OpP UnP ConvP RdP LdR StR MkR LenP AppR AppN CpyR RowP SnR Bds SlS CallP CalP FinP pw LdM GetM SetM PutM MkM AppM SnM FlP CallR
set_option maxHeartbeats 4000000
variable {L:Lib}
theorem ConvP.u64neg {k:Nat} {K:Int→Prop} (h:0<k∧k≤9223372036854775808) (hk:K ((18446744073709551616-k:Nat):Int)):ConvP .u64 (-(k:Int)) K:=by
 unfold ConvP
 have e:IntKind.u64.wrap (-(k:Int))=((18446744073709551616-k:Nat):Int):=by
  simp [IntKind.wrap,IntKind.bits,IntKind.signed];omega
 rw[e];exact hk
theorem UnP.neg64 {k:Nat} {K:AV→Prop} (h:0<k∧k≤9223372036854775808) (hk:K (.int .u64 (k:Int))):UnP .neg .u64 ((18446744073709551616-k:Nat):Int) K:=by
 refine UnP.go (v := .int .u64 (IntKind.u64.wrap (0-((18446744073709551616-k:Nat):Int)))) rfl ?_
 have e:IntKind.u64.wrap (0-((18446744073709551616-k:Nat):Int))=(k:Int):=by
  simp [IntKind.wrap,IntKind.bits,IntKind.signed];omega
 rw[e];exact hk
theorem ev_integer_Of (N:RatGLib L) (z:Int) (hz : -9223372036854775808≤z∧z≤9223372036854775807):Ev L 85 [.int .i64 z] (.agg (eZ z)):=by
 have two : ∀ k:Nat,k<18446744073709551616 → ∀ q,Ev L 66 [.sl q [[.int .u32 ((k%4294967296:Nat):Int)],[.int .u32 ((k/4294967296:Nat):Int)]]] (.sl false ((dg k).map e32)):=fun k hk q=>by
  have:=ev_Trim N.toNatGLib [k%4294967296,k/4294967296] q (dg2 hk).2 (by simp)
  rw[val_two hk]at this
  exact this
 refine Ev.x N.integer_Of rfl rfl ?_
 by_cases h0:0≤z
 ·obtain ⟨k,rfl⟩:=Int.eq_ofNat_of_zero_le h0
  have hT:=two k (by omega)
  have z1:=dg_len0 k
  (repeat' (first|(refine CmpP.go (fun hc => ?_) (fun hc => ?_)<;>first|(exfalso;omega)|(conv=>whnf))|(refine OpP.nshr32 ?_;conv=>whnf)|(refine ConvP.u64 ?_ ?_;omega;conv=>whnf)|(refine ConvP.n32i ?_ ?_;omega;conv=>whnf)|(refine ConvP.n32 ?_;conv=>whnf)|(refine SnR.e2 rfl rfl ?_;conv=>whnf)|(refine AKM.x ?_;conv=>whnf)))
  generalize k%4294967296=lo at *
  generalize k/4294967296=hi at *
  (repeat' (refine CallP.go (hT _) ?_;conv=>whnf))
  refine CalP.walkC 1000 N.integer_signed rfl rfl ?_
  (repeat' (refine AKM.x ?_;conv=>whnf))
  all_goals (refine ⟨rfl,?_⟩;(conv=>whnf);skip)
  exact FinP.go (agg_eZ (by omega) (sgn_F (by omega))) (cl_eZ _)
 ·obtain ⟨k,hk⟩:=Int.eq_ofNat_of_zero_le (show 0 ≤ -z by omega)
  obtain rfl:z = -(k:Int):=by omega
  have hT:=two k (by omega)
  have z1:=dg_len0 k
  (repeat' (refine AKM.x ?_;conv=>whnf))
  refine ConvP.u64neg (by omega) ?_
  (conv=>whnf)
  (repeat' (refine CmpP.go (fun hc => ?_) (fun hc => ?_)<;>first|(exfalso;omega)|(conv=>whnf)))
  refine UnP.neg64 (by omega) ?_
  (conv=>whnf)
  (repeat' (first|(refine CmpP.go (fun hc => ?_) (fun hc => ?_)<;>first|(exfalso;omega)|(conv=>whnf))|(refine OpP.nshr32 ?_;conv=>whnf)|(refine ConvP.n32i ?_ ?_;omega;conv=>whnf)|(refine ConvP.n32 ?_;conv=>whnf)|(refine SnR.e2 rfl rfl ?_;conv=>whnf)))
  generalize k%4294967296=lo at *
  generalize k/4294967296=hi at *
  (repeat' (refine CallP.go (hT _) ?_;conv=>whnf))
  refine CalP.walkC 1000 N.integer_signed rfl rfl ?_
  (repeat' (first|(refine CmpP.go (fun hc => ?_) (fun hc => ?_)<;>first|(exfalso;omega)|(conv=>whnf))|(refine LenP.go ?_;conv=>whnf)|(refine AKM.x ?_;conv=>whnf)))
  all_goals (refine ⟨rfl,?_⟩;(conv=>whnf);skip)
  exact FinP.go (agg_eZ (by omega) (sgn_T (by omega))) (cl_eZ _)
theorem ev_integer_Trim (N:RatGLib L) (n q:Bool) (m:List Nat) (hm:Sm 549755813888 m):Ev L 84 [.agg (rZ q n m)] (.agg (eZ (zv n m))):=by
 have hT:=fun q=>ev_Trim N.toNatGLib m q hm.1 (by have:=hm.2;omega)
 have hz:=dg_len0 (val m)
 have ha:=zv_abs n m
 refine Ev.x N.integer_Trim rfl rfl ?_
 cases n
 ·rw[zv_F]at *
  (repeat' (first|(refine AKM.x ?_;conv=>whnf)|(refine CallP.go (hT _) ?_;conv=>whnf)))
  refine CalP.walkC 1000 N.integer_signed rfl rfl ?_
  (repeat' (refine AKM.x ?_;conv=>whnf))
  all_goals (refine ⟨rfl,?_⟩;(conv=>whnf);skip)
  exact FinP.go (agg_eZ ha.symm (sgn_F (by omega))) (cl_eZ _)
 ·rw[zv_T]at *
  (repeat' (first|(refine AKM.x ?_;conv=>whnf)|(refine CallP.go (hT _) ?_;conv=>whnf)))
  refine CalP.walkC 1000 N.integer_signed rfl rfl ?_
  (repeat' (first|(refine CmpP.go (fun hc => ?_) (fun hc => ?_)<;>first|(exfalso;omega)|(conv=>whnf))|(refine LenP.go ?_;conv=>whnf)|(refine AKM.x ?_;conv=>whnf)))
  all_goals (refine ⟨rfl,?_⟩;(conv=>whnf);skip)
  ·exact FinP.go (agg_eZ ha.symm (sgn_T (by omega))) (cl_eZ _)
  ·exact FinP.go (agg_eZ ha.symm (sgn_F (by omega))) (cl_eZ _)
theorem ev_integer_Sign (N:RatGLib L) (n q:Bool) (m:List Nat) (hm:Sm 549755813888 m):Ev L 86 [.agg (rZ q n m)] (.int .i64 (sgn (zv n m))):=by
 have hcmp:=fun q q'=>ev_nat_Compare N.toNatGLib m [] q q' hm.1 dig_nil (by have:=hm.2;omega) (by simp)
 rw[val_nil]at hcmp
 refine Ev.x N.integer_Sign rfl rfl ?_
 by_cases h0:val m=0
 ·have hn:cmpS (val m) (0:Nat)=0:=(cmpS_eq (by omega)).symm
  rw[hn]at hcmp
  (repeat' (first|(refine CmpP.go (fun hc => ?_) (fun hc => ?_)<;>first|(exfalso;omega)|(conv=>whnf))|(refine AKM.x ?_;conv=>whnf)|(refine CallP.go (hcmp _ _) ?_;conv=>whnf)))
  exact FinP.i (sgn_zero (by have:=zv_abs n m;omega))
 ·have hn:cmpS (val m) (0:Nat)=1:=(cmpS_gt (by omega)).symm
  rw[hn]at hcmp
  cases n
  ·(repeat' (first|(refine CmpP.go (fun hc => ?_) (fun hc => ?_)<;>first|(exfalso;omega)|(conv=>whnf))|(refine AKM.x ?_;conv=>whnf)|(refine CallP.go (hcmp _ _) ?_;conv=>whnf)))
   exact FinP.i (sgn_pos (by rw[zv_F];omega))
  ·(repeat' (first|(refine CmpP.go (fun hc => ?_) (fun hc => ?_)<;>first|(exfalso;omega)|(conv=>whnf))|(refine AKM.x ?_;conv=>whnf)|(refine CallP.go (hcmp _ _) ?_;conv=>whnf)))
   exact FinP.i (sgn_neg (by rw[zv_T];omega))
theorem ev_integer_Add (N:RatGLib L) (n1 n2 q1 q2:Bool) (a b:List Nat) (ha:Sm 549755813888 a) (hb:Sm 549755813888 b):Ev L 87 [.agg (rZ q1 n1 a),.agg (rZ q2 n2 b)] (.agg (eZ (zv n1 a+zv n2 b))):=by
 have la:=ha.2
 have lb:=hb.2
 have h1:=fun q q'=>ev_nat_Add N.toNatGLib a b q q' ha.1 hb.1 (by omega) (by omega)
 have h2:=fun q q'=>ev_nat_Sub N.toNatGLib a b q q' ha.1 hb.1 (by omega) (by omega)
 have h3:=fun q q'=>ev_nat_Sub N.toNatGLib b a q q' hb.1 ha.1 (by omega) (by omega)
 have hcmp:=fun q q'=>ev_nat_Compare N.toNatGLib a b q q' ha.1 hb.1 (by omega) (by omega)
 have z1:=dg_len0 (val a+val b)
 have z2:=dg_len0 (val a-val b)
 have z3:=dg_len0 (val b-val a)
 refine Ev.x N.integer_Add rfl rfl ?_
 by_cases hlt:val a<val b
 ·have hn:cmpS (val a) (val b) = -1:=(cmpS_lt (by omega)).symm
  rw[hn]at hcmp
  cases n1<;>cases n2<;>simp only[zv_F,zv_T]
  ·(repeat' (first|(refine AKM.x ?_;conv=>whnf)|(refine CallP.go (h1 _ _) ?_;conv=>whnf)))
   refine CalP.walkC 1000 N.integer_signed rfl rfl ?_
   (repeat' (refine AKM.x ?_;conv=>whnf))
   all_goals (refine ⟨rfl,?_⟩;(conv=>whnf);skip)
   exact FinP.go (agg_eZ (by omega) (sgn_F (by omega))) (cl_eZ _)
  ·(repeat' (first|(refine CmpP.go (fun hc => ?_) (fun hc => ?_)<;>first|(exfalso;omega)|(conv=>whnf))|(refine AKM.x ?_;conv=>whnf)|(refine CallP.go (h3 _ _) ?_;conv=>whnf)|(refine CallP.go (hcmp _ _) ?_;conv=>whnf)))
   refine CalP.walkC 1000 N.integer_signed rfl rfl ?_
   (repeat' (first|(refine CmpP.go (fun hc => ?_) (fun hc => ?_)<;>first|(exfalso;omega)|(conv=>whnf))|(refine LenP.go ?_;conv=>whnf)|(refine AKM.x ?_;conv=>whnf)))
   all_goals (refine ⟨rfl,?_⟩;(conv=>whnf);skip)
   ·exact FinP.go (agg_eZ (by omega) (sgn_T (by omega))) (cl_eZ _)
  ·(repeat' (first|(refine CmpP.go (fun hc => ?_) (fun hc => ?_)<;>first|(exfalso;omega)|(conv=>whnf))|(refine AKM.x ?_;conv=>whnf)|(refine CallP.go (h3 _ _) ?_;conv=>whnf)|(refine CallP.go (hcmp _ _) ?_;conv=>whnf)))
   refine CalP.walkC 1000 N.integer_signed rfl rfl ?_
   (repeat' (refine AKM.x ?_;conv=>whnf))
   all_goals (refine ⟨rfl,?_⟩;(conv=>whnf);skip)
   ·exact FinP.go (agg_eZ (by omega) (sgn_F (by omega))) (cl_eZ _)
  ·(repeat' (first|(refine AKM.x ?_;conv=>whnf)|(refine CallP.go (h1 _ _) ?_;conv=>whnf)))
   refine CalP.walkC 1000 N.integer_signed rfl rfl ?_
   (repeat' (first|(refine CmpP.go (fun hc => ?_) (fun hc => ?_)<;>first|(exfalso;omega)|(conv=>whnf))|(refine LenP.go ?_;conv=>whnf)|(refine AKM.x ?_;conv=>whnf)))
   all_goals (refine ⟨rfl,?_⟩;(conv=>whnf);skip)
   ·exact FinP.go (agg_eZ (by omega) (sgn_T (by omega))) (cl_eZ _)
 ·have hn:cmpS (val a) (val b) ≠ -1:=by unfold cmpS;split<;>(try split)<;>omega
  generalize cmpS (val a) (val b)=cm at *
  cases n1<;>cases n2<;>simp only[zv_F,zv_T]
  ·(repeat' (first|(refine AKM.x ?_;conv=>whnf)|(refine CallP.go (h1 _ _) ?_;conv=>whnf)))
   refine CalP.walkC 1000 N.integer_signed rfl rfl ?_
   (repeat' (refine AKM.x ?_;conv=>whnf))
   all_goals (refine ⟨rfl,?_⟩;(conv=>whnf);skip)
   exact FinP.go (agg_eZ (by omega) (sgn_F (by omega))) (cl_eZ _)
  ·(repeat' (first|(refine CmpP.go (fun hc => ?_) (fun hc => ?_)<;>first|(exfalso;omega)|(conv=>whnf))|(refine AKM.x ?_;conv=>whnf)|(refine CallP.go (h2 _ _) ?_;conv=>whnf)|(refine CallP.go (hcmp _ _) ?_;conv=>whnf)))
   refine CalP.walkC 1000 N.integer_signed rfl rfl ?_
   (repeat' (refine AKM.x ?_;conv=>whnf))
   all_goals (refine ⟨rfl,?_⟩;(conv=>whnf);skip)
   exact FinP.go (agg_eZ (by omega) (sgn_F (by omega))) (cl_eZ _)
  ·(repeat' (first|(refine CmpP.go (fun hc => ?_) (fun hc => ?_)<;>first|(exfalso;omega)|(conv=>whnf))|(refine AKM.x ?_;conv=>whnf)|(refine CallP.go (h2 _ _) ?_;conv=>whnf)|(refine CallP.go (hcmp _ _) ?_;conv=>whnf)))
   refine CalP.walkC 1000 N.integer_signed rfl rfl ?_
   (repeat' (first|(refine CmpP.go (fun hc => ?_) (fun hc => ?_)<;>first|(exfalso;omega)|(conv=>whnf))|(refine LenP.go ?_;conv=>whnf)|(refine AKM.x ?_;conv=>whnf)))
   all_goals (refine ⟨rfl,?_⟩;(conv=>whnf);skip)
   ·exact FinP.go (agg_eZ (by omega) (sgn_T (by omega))) (cl_eZ _)
   ·exact FinP.go (agg_eZ (by omega) (sgn_F (by omega))) (cl_eZ _)
  ·(repeat' (first|(refine AKM.x ?_;conv=>whnf)|(refine CallP.go (h1 _ _) ?_;conv=>whnf)))
   refine CalP.walkC 1000 N.integer_signed rfl rfl ?_
   (repeat' (first|(refine CmpP.go (fun hc => ?_) (fun hc => ?_)<;>first|(exfalso;omega)|(conv=>whnf))|(refine LenP.go ?_;conv=>whnf)|(refine AKM.x ?_;conv=>whnf)))
   all_goals (refine ⟨rfl,?_⟩;(conv=>whnf);skip)
   ·exact FinP.go (agg_eZ (by omega) (sgn_T (by omega))) (cl_eZ _)
   ·exact FinP.go (agg_eZ (by omega) (sgn_F (by omega))) (cl_eZ _)
theorem ev_integer_Mul (N:RatGLib L) (n1 n2 q1 q2:Bool) (a b:List Nat) (ha:Dig a) (hb:Dig b) (hl:a.length+b.length≤1099511627776):Ev L 88 [.agg (rZ q1 n1 a),.agg (rZ q2 n2 b)] (.agg (eZ (zv n1 a*zv n2 b))):=by
 have h1:=fun q q'=>ev_nat_Mul N.toNatGLib a b q q' ha hb hl
 have z1:=dg_len0 (val a*val b)
 have habs:(zv n1 a*zv n2 b).natAbs=val a*val b:=by rw[Int.natAbs_mul,zv_abs,zv_abs]
 refine Ev.x N.integer_Mul rfl rfl ?_
 have e:zv n1 a*zv n2 b=bif n1 == n2 then ((val a*val b:Nat):Int) else -((val a*val b:Nat):Int):=by
  cases n1<;>cases n2<;>simp [zv_F,zv_T,Int.mul_neg,Int.neg_mul]
 rw[e]at habs ⊢
 generalize val a*val b=V at *
 cases n1<;>cases n2<;>simp only[beq_self_eq_true,cond_true,show (false == true)=false from rfl,show (true == false)=false from rfl,cond_false]
 ·(repeat' (first|(refine AKM.x ?_;conv=>whnf)|(refine CallP.go (h1 _ _) ?_;conv=>whnf)))
  refine CalP.walkC 1000 N.integer_signed rfl rfl ?_
  (repeat' (refine AKM.x ?_;conv=>whnf))
  all_goals (refine ⟨rfl,?_⟩;(conv=>whnf);skip)
  exact FinP.go (agg_eZ (by omega) (sgn_F (by omega))) (cl_eZ _)
 ·(repeat' (first|(refine AKM.x ?_;conv=>whnf)|(refine CallP.go (h1 _ _) ?_;conv=>whnf)))
  refine CalP.walkC 1000 N.integer_signed rfl rfl ?_
  (repeat' (first|(refine CmpP.go (fun hc => ?_) (fun hc => ?_)<;>first|(exfalso;omega)|(conv=>whnf))|(refine LenP.go ?_;conv=>whnf)|(refine AKM.x ?_;conv=>whnf)))
  all_goals (refine ⟨rfl,?_⟩;(conv=>whnf);skip)
  ·exact FinP.go (agg_eZ (by omega) (sgn_T (by omega))) (cl_eZ _)
  ·exact FinP.go (agg_eZ (by omega) (sgn_F (by omega))) (cl_eZ _)
 ·(repeat' (first|(refine AKM.x ?_;conv=>whnf)|(refine CallP.go (h1 _ _) ?_;conv=>whnf)))
  refine CalP.walkC 1000 N.integer_signed rfl rfl ?_
  (repeat' (first|(refine CmpP.go (fun hc => ?_) (fun hc => ?_)<;>first|(exfalso;omega)|(conv=>whnf))|(refine LenP.go ?_;conv=>whnf)|(refine AKM.x ?_;conv=>whnf)))
  all_goals (refine ⟨rfl,?_⟩;(conv=>whnf);skip)
  ·exact FinP.go (agg_eZ (by omega) (sgn_T (by omega))) (cl_eZ _)
  ·exact FinP.go (agg_eZ (by omega) (sgn_F (by omega))) (cl_eZ _)
 ·(repeat' (first|(refine AKM.x ?_;conv=>whnf)|(refine CallP.go (h1 _ _) ?_;conv=>whnf)))
  refine CalP.walkC 1000 N.integer_signed rfl rfl ?_
  (repeat' (refine AKM.x ?_;conv=>whnf))
  all_goals (refine ⟨rfl,?_⟩;(conv=>whnf);skip)
  exact FinP.go (agg_eZ (by omega) (sgn_F (by omega))) (cl_eZ _)
end Go.Eng

namespace Go.Eng
open F
attribute [local irreducible] AKM CmpP Req OpP UnP ConvP RdP LdR StR MkR LenP AppR AppN CpyR RowP SnR Bds SlS CallP CalP FinP pw LdM GetM SetM PutM MkM AppM SnM FlP CallR
set_option maxHeartbeats 4000000
variable {L:Lib}
theorem dg_one:dg 1=[1]:=by rw[dg_pos (by omega)];simp [dg_zero]
theorem ev_isOne (N:RatGLib L) (V:Nat) (q:Bool):Ev L 90 [.sl q ((dg V).map e32)] (.bool (decide (V=1))):=by
 have hv:=val_dg V
 have hD:=dig_dg V
 have h1:V=1→dg V=[1]:=fun h=>by rw[h,dg_one]
 generalize dg V=l at *
 refine Ev.x N.rational_isOne rfl rfl ?_
 by_cases hl:l.length=1
 ·obtain ⟨d,rfl⟩:=List.length_eq_one_iff.1 hl
  have e:V=d:=by rw[←hv];simp [val]
  subst e
  have hd:[V][(0:Int).toNat]? = some V:=rfl
  (repeat' (first|(refine CmpP.go (fun hc => ?_) (fun hc => ?_)<;>first|(exfalso;omega)|(conv=>whnf))|(refine LenP.go ?_;conv=>whnf)|(refine RdP.at (by assumption) ?_ rfl ?_;omega;conv=>whnf)|(refine AKM.x ?_;conv=>whnf)))
  ·exact FinP.dt (by omega)
  ·exact FinP.df (by omega)
 ·(repeat' (first|(refine CmpP.go (fun hc => ?_) (fun hc => ?_)<;>first|(exfalso;omega)|(conv=>whnf))|(refine LenP.go ?_;conv=>whnf)|(refine AKM.x ?_;conv=>whnf)))
  exact FinP.df (fun h=>by rw[h1 h]at hl;simp at hl)
theorem ev_lowest (N:RatGLib L) (n q1 q2:Bool) (m d:List Nat) (hm:Sm 549755813888 m) (hd:Sm 549755813888 d) (h0:val d≠0):Ev L 94 [.agg (rQ q1 q2 n m d)] (.agg (eQ (qv n m d))):=by
 have hDM:=fun q q'=>ev_nat_DivMod N.toNatGLib m d q q' hm.1 hd.1 hm.2 hd.2 h0
 have hza:=zv_abs n m
 have sq:Sm 549755813888 (dg (val m/val d)):=hm.low (Nat.div_le_self _ _)
 have sr:Sm 549755813888 (dg (val m%val d)):=hd.low (Nat.le_of_lt (Nat.mod_lt _ (by omega)))
 have hT:=fun q=>ev_integer_Trim N n q _ sq
 have hG:=fun q q'=>ev_nat_Gcd N.toNatGLib d (dg (val m%val d)) q q' hd.1 sr.1 hd.2 sr.2
 rw[val_dg,show Nat.gcd (val d) (val m%val d)=Nat.gcd (val d) (zv n m).natAbs by rw[hza,gcd_mod_step,Nat.gcd_comm]]at hG
 have hgp:=gcd_pos' (zv n m).natAbs h0
 have hgd:=Nat.gcd_le_left (zv n m).natAbs (show 0<val d by omega)
 have hz:=dg_len0 (val m%val d)
 obtain ⟨e1,e2,e3⟩:=mk_parts (z:=zv n m) h0
 unfold qv
 generalize hGG:Nat.gcd (val d) (zv n m).natAbs=g at *
 have h1:=fun q=>ev_isOne N g q
 refine Ev.x N.rational_pair_lowest rfl rfl ?_
 by_cases hr0:val m%val d=0
 ·(repeat' (first|(refine CmpP.go (fun hc => ?_) (fun hc => ?_)<;>first|(exfalso;omega)|(conv=>whnf))|(refine LenP.go ?_;conv=>whnf)|(refine AKM.x ?_;conv=>whnf)|(refine CallP.go (hDM _ _) ?_;conv=>whnf)|(refine CallP.go (hT _) ?_;conv=>whnf)))
  refine CalP.walkC 1000 N.rational_whole rfl rfl ?_
  (repeat' (refine AKM.x ?_;conv=>whnf))
  refine ⟨rfl,?_⟩
  (conv=>whnf)
  (repeat' (refine SnR.e1 rfl ?_;conv=>whnf))
  have hge:g=val d:=by
   rw[←hGG,hza]
   exact Nat.gcd_eq_left (Nat.dvd_of_mod_eq_zero hr0)
  have hv:=val_dg (val m/val d)
  refine FinP.go ?_ ?_
  ·show _=AV.agg (rQ _ _ _ _ _)
   rw[e1,e2,e3,hza,hge,Nat.div_self (by omega),zv_abs,hv,dg_one]
   have hs:decide (zv n (dg (val m/val d))<0)=decide (zv n m<0):=by
    cases n
    ·rw[zv_F,zv_F];simp;omega
    ·rw[zv_T,zv_T,hv]
     congr 1
     rw[eq_iff_iff]
     have h5:=Nat.div_add_mod (val m) (val d)
     rw[hr0,Nat.add_zero]at h5
     constructor
     ·intro h6
      have h7:val m/val d≠0:=by omega
      have:val m≠0:=fun h8=>h7 (by rw[h8,Nat.zero_div])
      omega
     ·intro h6
      have h7:val m/val d≠0:=fun h8=>by rw[h8,Nat.mul_zero]at h5;omega
      omega
   rw[hs]
   rfl
  ·exact cl_eQ _
 ·by_cases hg1:g=1
  ·have hT1:=fun q=>ev_integer_Trim N n q m hm
   have hT2:=fun q=>ev_Trim N.toNatGLib d q hd.1 (by have:=hd.2;omega)
   (repeat' (first|(refine CmpP.go (fun hc => ?_) (fun hc => ?_)<;>first|(exfalso;omega)|(conv=>whnf))|(refine LenP.go ?_;conv=>whnf)|(refine AKM.x ?_;conv=>whnf)|(refine CallP.go (hDM _ _) ?_;conv=>whnf)|(refine CallP.go (hG _ _) ?_;conv=>whnf)|(refine CallP.b (h1 _) (fun hf => ?_) (fun hf => ?_)<;>(conv=>whnf))|(refine CallP.go (hT1 _) ?_;conv=>whnf)|(refine CallP.go (hT2 _) ?_;conv=>whnf)))
   ·refine FinP.go ?_ (cl_agg3 _ _ _)
    show _=AV.agg (rQ _ _ _ _ _)
    rw[e1,e2,e3,hg1,Nat.div_one,Nat.div_one]
   ·exact absurd hg1 hf
  ·have sg:Sm 549755813888 (dg g):=hd.low hgd
   have hD1:=fun q q'=>ev_nat_DivMod N.toNatGLib m (dg g) q q' hm.1 sg.1 hm.2 sg.2 (by rw[val_dg];omega)
   have hD2:=fun q q'=>ev_nat_DivMod N.toNatGLib d (dg g) q q' hd.1 sg.1 hd.2 sg.2 (by rw[val_dg];omega)
   rw[val_dg]at hD1 hD2
   (repeat' (first|(refine CmpP.go (fun hc => ?_) (fun hc => ?_)<;>first|(exfalso;omega)|(conv=>whnf))|(refine LenP.go ?_;conv=>whnf)|(refine AKM.x ?_;conv=>whnf)|(refine CallP.go (hDM _ _) ?_;conv=>whnf)|(refine CallP.go (hG _ _) ?_;conv=>whnf)|(refine CallP.b (h1 _) (fun hf => ?_) (fun hf => ?_)<;>(conv=>whnf))|(refine CallP.go (hD1 _ _) ?_;conv=>whnf)|(refine CallP.go (hD2 _ _) ?_;conv=>whnf)))
   ·exact absurd hf hg1
   ·refine FinP.go ?_ (cl_agg3 _ _ _)
    show _=AV.agg (rQ _ _ _ _ _)
    rw[e1,e2,e3,hza]
    have hs:n=decide (zv n m<0):=by
     have:val m≠0:=fun h=>hr0 (by rw[h,Nat.zero_mod])
     cases n
     ·exact sgn_F (by rw[zv_F];omega)
     ·exact sgn_T (by rw[zv_T];omega)
    rw[←hs]
theorem ev_natural (N:RatGLib L) (m:List Nat):Ev L 91 [.sl false (m.map e32)] (.agg [.bool false,.sl false (m.map e32)]):=by
 refine Ev.x N.rational_natural rfl rfl ?_
 (repeat' (refine AKM.x ?_;conv=>whnf))
 exact FinP.go rfl (cl_agg2 _ _)
def RdIs (n:Bool) (m d:List Nat) (n':Bool) (m' d':List Nat) (w:Bool) (k:Nat):Prop:=Sm k m'∧Sm k d'∧val d'≠0∧(w=true→val d'=1)∧qv n m d=mkRat (zv n' m') (val d')
theorem ev_read (N:RatGLib L) (n:Bool) (m d:List Nat) (k:Nat) (hk:1≤k∧k≤549755813888) (hm:Sm k m) (hd:Sm k d) : ∃ n' m' d' w,Ev L 89 [.agg (rQ false false n m d)] (.agg [.bool n',.sl false (m'.map e32),.sl false (d'.map e32),.bool w])∧RdIs n m d n' m' d' w k:=by
 have hcmp:=fun q q'=>ev_nat_Compare N.toNatGLib d [] q q' hd.1 dig_nil (by have:=hd.2;omega) (by simp)
 rw[val_nil]at hcmp
 by_cases h1:d=[1]
 ·subst h1
  refine ⟨n,m,[1],true,?_,hm,hd,by decide,fun _=>rfl,rfl⟩
  refine Ev.x N.rational_read rfl rfl ?_
  have hd:[1][(0:Int).toNat]? = some 1:=rfl
  have hll:([1]:List Nat).length=1:=rfl
  (repeat' (first|(refine CmpP.go (fun hc => ?_) (fun hc => ?_)<;>first|(exfalso;omega)|(conv=>whnf))|(refine LenP.go ?_;conv=>whnf)|(refine RdP.at (by assumption) ?_ rfl ?_;omega;conv=>whnf)|(refine AKM.x ?_;conv=>whnf)))
  exact FinP.go rfl (cl_agg4 _ _ _ _)
 have hne : ∀ x,d[(0:Int).toNat]? = some x→(d.length:Int)=1→(x:Int)≠1:=fun x hx hl h=>by
  obtain ⟨y,rfl⟩:=List.length_eq_one_iff.1 (show d.length=1 by omega)
  simp at hx
  apply h1
  congr 1
  omega
 by_cases h0:val d=0
 ·refine ⟨false,[],[1],true,?_,sm_nil _,sm_one hk.1 (by omega),by decide,fun _=>rfl,by unfold qv;rw[h0,Rat.mkRat_zero,zv_nil,Rat.zero_mkRat]⟩
  have hn:cmpS (val d) (0:Nat)=0:=(cmpS_eq (by omega)).symm
  rw[hn]at hcmp
  refine Ev.x N.rational_read rfl rfl ?_
  have hD:=hd.1
  (repeat' (first|(refine CmpP.go (fun hc => ?_) (fun hc => ?_)<;>first|(exfalso;omega)|(conv=>whnf))|(refine LenP.go ?_;conv=>whnf)|(refine RdP.digi (by assumption) ?_ (fun e he hb => ?_);omega;conv=>whnf)|(refine SnR.e1 rfl ?_;conv=>whnf)|(refine AKM.x ?_;conv=>whnf)|(refine CallP.go (hcmp _ _) ?_;conv=>whnf)))
  all_goals first
   | exact FinP.go rfl (cl_agg4 _ _ _ _)
   | exact FinP.go rfl (cl_agg4 false true [] [1])
   | exact absurd (by assumption) (hne _ he (by assumption))
 ·refine ⟨n,m,d,false,?_,hm,hd,h0,(fun h=>by cases h),rfl⟩
  have hn:cmpS (val d) (0:Nat)=1:=(cmpS_gt (by omega)).symm
  rw[hn]at hcmp
  have hD:=hd.1
  refine Ev.x N.rational_read rfl rfl ?_
  (repeat' (first|(refine CmpP.go (fun hc => ?_) (fun hc => ?_)<;>first|(exfalso;omega)|(conv=>whnf))|(refine LenP.go ?_;conv=>whnf)|(refine RdP.digi (by assumption) ?_ (fun e he hb => ?_);omega;conv=>whnf)|(refine AKM.x ?_;conv=>whnf)|(refine CallP.go (hcmp _ _) ?_;conv=>whnf)))
  all_goals first
   | exact FinP.go rfl (cl_agg4 _ _ _ _)
   | exact FinP.go rfl (cl_agg4 false true [] [1])
   | exact absurd (by assumption) (hne _ he (by assumption))
theorem ev_rational_Trim (N:RatGLib L) (n q1 q2:Bool) (m d:List Nat) (hm:Sm 549755813888 m) (hd:Sm 549755813888 d):Ev L 95 [.agg (rQ q1 q2 n m d)] (.agg (eQ (qv n m d))):=by
 obtain ⟨n',m',d',w,hr,s1,s2,s3,s4,s5⟩:=ev_read N n m d 549755813888 (by omega) hm hd
 have hl:=fun q1 q2=>ev_lowest N n' q1 q2 m' d' s1 s2 s3
 rw[s5]
 unfold qv at hl
 refine Ev.x N.rational_Trim rfl rfl ?_
 (repeat' (first|(refine FlP.n4 ?_;conv=>whnf)|(refine AKM.x ?_;conv=>whnf)|(refine CallP.go (hr) ?_;conv=>whnf)|(refine CallP.go (hl _ _) ?_;conv=>whnf)))
 exact FinP.go rfl (cl_eQ _)
theorem ev_rational_Sign (N:RatGLib L) (n q1 q2:Bool) (m d:List Nat) (hm:Sm 549755813888 m) (hd:Sm 549755813888 d):Ev L 97 [.agg (rQ q1 q2 n m d)] (.int .i64 (sgn (qv n m d).num)):=by
 obtain ⟨n',m',d',w,hr,s1,s2,s3,s4,s5⟩:=ev_read N n m d 549755813888 (by omega) hm hd
 have hl:=fun q=>ev_integer_Sign N n' q m' s1
 rw[s5,mk_sgn s3]
 refine Ev.x N.rational_Sign rfl rfl ?_
 (repeat' (first|(refine FlP.n4 ?_;conv=>whnf)|(refine AKM.x ?_;conv=>whnf)|(refine CallP.go (hr) ?_;conv=>whnf)|(refine CallP.go (hl _) ?_;conv=>whnf)))
 exact FinP.i rfl
theorem agg_whole (z:Int):AV.agg [.bool (decide (z<0)),.sl false ((dg z.natAbs).map e32),.sl false [[.int .u32 1]]] = .agg (eQ (z:Rat)):=by
 show _=AV.agg (rQ _ _ _ _ _)
 rw[Rat.num_intCast,Rat.den_intCast,dg_one];rfl
theorem ev_rational_Of (N:RatGLib L) (z:Int) (hz : -9223372036854775808≤z∧z≤9223372036854775807):Ev L 96 [.int .i64 z] (.agg (eQ (z:Rat))):=by
 have h1:=ev_integer_Of N z hz
 refine Ev.x N.rational_Of rfl rfl ?_
 (repeat' (first|(refine AKM.x ?_;conv=>whnf)|(refine CallP.go (h1) ?_;conv=>whnf)))
 refine CalP.walkC 1000 N.rational_whole rfl rfl ?_
 (repeat' (refine AKM.x ?_;conv=>whnf))
 refine ⟨rfl,?_⟩
 (conv=>whnf)
 (repeat' (refine SnR.e1 rfl ?_;conv=>whnf))
 exact FinP.go (agg_whole z) (cl_eQ _)
theorem sm_zmul {k l:Nat} {n1 n2:Bool} {a b:List Nat} (ha:Sm k a) (hb:Sm l b):Sm (k+l) (dg (zv n1 a*zv n2 b).natAbs):=ha.mul hb (by rw[Int.natAbs_mul,zv_abs,zv_abs])
theorem sm_zadd {k:Nat} {x y:Int} (ha:Sm k (dg x.natAbs)) (hb:Sm k (dg y.natAbs)):Sm (k+1) (dg (x+y).natAbs):=ha.add hb (by rw[val_dg,val_dg];omega)
theorem ev_rational_Add (N:RatGLib L) (k:Nat) (hk:1≤k∧k≤68719476736) (n1 n2 q1 q2 q3 q4:Bool) (m1 d1 m2 d2:List Nat) (hm1:Sm k m1) (hd1:Sm k d1) (hm2:Sm k m2) (hd2:Sm k d2) :
  Ev L 98 [.agg (rQ q1 q2 n1 m1 d1),.agg (rQ q3 q4 n2 m2 d2)] (.agg (eQ (qv n1 m1 d1+qv n2 m2 d2))):=by
 obtain ⟨a1,a2,a3,w1,hr1,s1,s2,s3,s4,s5⟩:=ev_read N n1 m1 d1 k (by omega) hm1 hd1
 obtain ⟨b1,b2,b3,w2,hr2,t1,t2,t3,t4,t5⟩:=ev_read N n2 m2 d2 k (by omega) hm2 hd2
 rw[s5,t5]
 have hA:=fun q q'=>ev_integer_Add N a1 b1 q q' a2 b2 (s1.le (by omega)) (t1.le (by omega))
 have hsum:Sm (k+1) (dg (zv a1 a2+zv b1 b2).natAbs):=sm_zadd (by rw[zv_abs];exact s1.nrm) (by rw[zv_abs];exact t1.nrm)
 by_cases hw:w1=true∧w2=true
 ·obtain ⟨rfl,rfl⟩:=hw
  rw[s4 rfl,t4 rfl,mk_add_same (by omega),mk_one]
  generalize zv a1 a2+zv b1 b2=z at *
  refine Ev.x N.rational_Add rfl rfl ?_
  (repeat' (first|(refine FlP.n4 ?_;conv=>whnf)|(refine AKM.x ?_;conv=>whnf)|(refine CallP.go (hr1) ?_;conv=>whnf)|(refine CallP.go (hr2) ?_;conv=>whnf)|(refine CallP.go (hA _ _) ?_;conv=>whnf)))
  refine CalP.walkC 1000 N.rational_whole rfl rfl ?_
  (repeat' (refine AKM.x ?_;conv=>whnf))
  refine ⟨rfl,?_⟩
  (conv=>whnf)
  (repeat' (refine SnR.e1 rfl ?_;conv=>whnf))
  exact FinP.go (agg_whole z) (cl_eQ _)
 ·have hcmp:=fun q q'=>ev_nat_Compare N.toNatGLib a3 b3 q q' s2.1 t2.1 (by have:=s2.2;omega) (by have:=t2.2;omega)
  by_cases hde:val a3=val b3
  ·have hn:cmpS (val a3) (val b3)=0:=(cmpS_eq (by omega)).symm
   rw[hn]at hcmp
   rw[←hde,mk_add_same s3]
   generalize zv a1 a2+zv b1 b2=z at *
   have hl:=fun q1 q2=>ev_lowest N (decide (z<0)) q1 q2 (dg z.natAbs) a3 (hsum.le (by omega)) (s2.le (by omega)) s3
   unfold qv at hl
   rw[zv_of]at hl
   refine Ev.x N.rational_Add rfl rfl ?_
   cases w1<;>cases w2
   ·(repeat' (first|(refine CmpP.go (fun hc => ?_) (fun hc => ?_)<;>first|(exfalso;omega)|(conv=>whnf))|(refine FlP.n4 ?_;conv=>whnf)|(refine AKM.x ?_;conv=>whnf)|(refine CallP.go (hr1) ?_;conv=>whnf)|(refine CallP.go (hr2) ?_;conv=>whnf)|(refine CallP.go (hA _ _) ?_;conv=>whnf)|(refine CallP.go (hcmp _ _) ?_;conv=>whnf)|(refine CallP.go (hl _ _) ?_;conv=>whnf)))
    exact FinP.go rfl (cl_eQ _)
   ·(repeat' (first|(refine CmpP.go (fun hc => ?_) (fun hc => ?_)<;>first|(exfalso;omega)|(conv=>whnf))|(refine FlP.n4 ?_;conv=>whnf)|(refine AKM.x ?_;conv=>whnf)|(refine CallP.go (hr1) ?_;conv=>whnf)|(refine CallP.go (hr2) ?_;conv=>whnf)|(refine CallP.go (hA _ _) ?_;conv=>whnf)|(refine CallP.go (hcmp _ _) ?_;conv=>whnf)|(refine CallP.go (hl _ _) ?_;conv=>whnf)))
    exact FinP.go rfl (cl_eQ _)
   ·(repeat' (first|(refine CmpP.go (fun hc => ?_) (fun hc => ?_)<;>first|(exfalso;omega)|(conv=>whnf))|(refine FlP.n4 ?_;conv=>whnf)|(refine AKM.x ?_;conv=>whnf)|(refine CallP.go (hr1) ?_;conv=>whnf)|(refine CallP.go (hr2) ?_;conv=>whnf)|(refine CallP.go (hA _ _) ?_;conv=>whnf)|(refine CallP.go (hcmp _ _) ?_;conv=>whnf)|(refine CallP.go (hl _ _) ?_;conv=>whnf)))
    exact FinP.go rfl (cl_eQ _)
   ·exact absurd ⟨rfl,rfl⟩ hw
  ·have hn:cmpS (val a3) (val b3)≠0:=by unfold cmpS;split<;>(try split)<;>omega
   generalize cmpS (val a3) (val b3)=cm at *
   have hM1:=fun q q'=>ev_integer_Mul N a1 false q q' a2 b3 s1.1 t2.1 (by have:=s1.2;have:=t2.2;omega)
   have hM2:=fun q q'=>ev_integer_Mul N b1 false q q' b2 a3 t1.1 s2.1 (by have:=t1.2;have:=s2.2;omega)
   have hM3:=fun q q'=>ev_nat_Mul N.toNatGLib a3 b3 q q' s2.1 t2.1 (by have:=s2.2;have:=t2.2;omega)
   have hna:=ev_natural N a3
   have hnb:=ev_natural N b3
   have g1:Sm (k+k) (dg (zv a1 a2*zv false b3).natAbs):=sm_zmul s1 t2
   have g2:Sm (k+k) (dg (zv b1 b2*zv false a3).natAbs):=sm_zmul t1 s2
   have g3:=sm_zadd g1 g2
   have g4:Sm (k+k) (dg (val a3*val b3)):=s2.mul t2 rfl
   rw[mk_add s3 t3,←zv_F b3,←zv_F a3]
   have hden:val a3*val b3≠0:=Nat.mul_ne_zero s3 t3
   generalize zv a1 a2*zv false b3=x at *
   generalize zv b1 b2*zv false a3=y at *
   generalize val a3*val b3=D at *
   have hA2:=fun q q'=>ev_integer_Add N (decide (x<0)) (decide (y<0)) q q' (dg x.natAbs) (dg y.natAbs) (g1.le (by omega)) (g2.le (by omega))
   rw[zv_of,zv_of]at hA2
   generalize x+y=z at *
   have hl:=fun q1 q2=>ev_lowest N (decide (z<0)) q1 q2 (dg z.natAbs) (dg D) (g3.le (by omega)) (g4.le (by omega)) (by rw[val_dg];exact hden)
   unfold qv at hl
   rw[zv_of,val_dg]at hl
   refine Ev.x N.rational_Add rfl rfl ?_
   cases w1<;>cases w2
   ·(repeat' (first|(refine CmpP.go (fun hc => ?_) (fun hc => ?_)<;>first|(exfalso;omega)|(conv=>whnf))|(refine FlP.n4 ?_;conv=>whnf)|(refine FlP.n2 ?_;conv=>whnf)|(refine AKM.x ?_;conv=>whnf)|(refine CallP.go (hr1) ?_;conv=>whnf)|(refine CallP.go (hr2) ?_;conv=>whnf)|(refine CallP.go (hcmp _ _) ?_;conv=>whnf)|(refine CallP.go (hna) ?_;conv=>whnf)|(refine CallP.go (hnb) ?_;conv=>whnf)|(refine CallP.go (hM1 _ _) ?_;conv=>whnf)|(refine CallP.go (hM2 _ _) ?_;conv=>whnf)|(refine CallP.go (hA2 _ _) ?_;conv=>whnf)|(refine CallP.go (hM3 _ _) ?_;conv=>whnf)|(refine CallP.go (hl _ _) ?_;conv=>whnf)))
    exact FinP.go rfl (cl_eQ _)
   ·(repeat' (first|(refine CmpP.go (fun hc => ?_) (fun hc => ?_)<;>first|(exfalso;omega)|(conv=>whnf))|(refine FlP.n4 ?_;conv=>whnf)|(refine FlP.n2 ?_;conv=>whnf)|(refine AKM.x ?_;conv=>whnf)|(refine CallP.go (hr1) ?_;conv=>whnf)|(refine CallP.go (hr2) ?_;conv=>whnf)|(refine CallP.go (hcmp _ _) ?_;conv=>whnf)|(refine CallP.go (hna) ?_;conv=>whnf)|(refine CallP.go (hnb) ?_;conv=>whnf)|(refine CallP.go (hM1 _ _) ?_;conv=>whnf)|(refine CallP.go (hM2 _ _) ?_;conv=>whnf)|(refine CallP.go (hA2 _ _) ?_;conv=>whnf)|(refine CallP.go (hM3 _ _) ?_;conv=>whnf)|(refine CallP.go (hl _ _) ?_;conv=>whnf)))
    exact FinP.go rfl (cl_eQ _)
   ·(repeat' (first|(refine CmpP.go (fun hc => ?_) (fun hc => ?_)<;>first|(exfalso;omega)|(conv=>whnf))|(refine FlP.n4 ?_;conv=>whnf)|(refine FlP.n2 ?_;conv=>whnf)|(refine AKM.x ?_;conv=>whnf)|(refine CallP.go (hr1) ?_;conv=>whnf)|(refine CallP.go (hr2) ?_;conv=>whnf)|(refine CallP.go (hcmp _ _) ?_;conv=>whnf)|(refine CallP.go (hna) ?_;conv=>whnf)|(refine CallP.go (hnb) ?_;conv=>whnf)|(refine CallP.go (hM1 _ _) ?_;conv=>whnf)|(refine CallP.go (hM2 _ _) ?_;conv=>whnf)|(refine CallP.go (hA2 _ _) ?_;conv=>whnf)|(refine CallP.go (hM3 _ _) ?_;conv=>whnf)|(refine CallP.go (hl _ _) ?_;conv=>whnf)))
    exact FinP.go rfl (cl_eQ _)
   ·exact absurd ⟨rfl,rfl⟩ hw
theorem ev_rational_Mul (N:RatGLib L) (k:Nat) (hk:1≤k∧k≤68719476736) (n1 n2 q1 q2 q3 q4:Bool) (m1 d1 m2 d2:List Nat) (hm1:Sm k m1) (hd1:Sm k d1) (hm2:Sm k m2) (hd2:Sm k d2) :
  Ev L 99 [.agg (rQ q1 q2 n1 m1 d1),.agg (rQ q3 q4 n2 m2 d2)] (.agg (eQ (qv n1 m1 d1*qv n2 m2 d2))):=by
 obtain ⟨a1,a2,a3,w1,hr1,s1,s2,s3,s4,s5⟩:=ev_read N n1 m1 d1 k (by omega) hm1 hd1
 obtain ⟨b1,b2,b3,w2,hr2,t1,t2,t3,t4,t5⟩:=ev_read N n2 m2 d2 k (by omega) hm2 hd2
 rw[s5,t5,mk_mul]
 have hM1:=fun q q'=>ev_integer_Mul N a1 b1 q q' a2 b2 s1.1 t1.1 (by have:=s1.2;have:=t1.2;omega)
 have hM3:=fun q q'=>ev_nat_Mul N.toNatGLib a3 b3 q q' s2.1 t2.1 (by have:=s2.2;have:=t2.2;omega)
 have g1:Sm (k+k) (dg (zv a1 a2*zv b1 b2).natAbs):=sm_zmul s1 t1
 have g4:Sm (k+k) (dg (val a3*val b3)):=s2.mul t2 rfl
 have hden:val a3*val b3≠0:=Nat.mul_ne_zero s3 t3
 generalize zv a1 a2*zv b1 b2=z at *
 by_cases hw:w1=true∧w2=true
 ·obtain ⟨rfl,rfl⟩:=hw
  rw[s4 rfl,t4 rfl,Nat.one_mul,mk_one]
  refine Ev.x N.rational_Mul rfl rfl ?_
  (repeat' (first|(refine FlP.n4 ?_;conv=>whnf)|(refine AKM.x ?_;conv=>whnf)|(refine CallP.go (hr1) ?_;conv=>whnf)|(refine CallP.go (hr2) ?_;conv=>whnf)|(refine CallP.go (hM1 _ _) ?_;conv=>whnf)))
  refine CalP.walkC 1000 N.rational_whole rfl rfl ?_
  (repeat' (refine AKM.x ?_;conv=>whnf))
  refine ⟨rfl,?_⟩
  (conv=>whnf)
  (repeat' (refine SnR.e1 rfl ?_;conv=>whnf))
  exact FinP.go (agg_whole z) (cl_eQ _)
 ·generalize val a3*val b3=D at *
  have hl:=fun q1 q2=>ev_lowest N (decide (z<0)) q1 q2 (dg z.natAbs) (dg D) (g1.le (by omega)) (g4.le (by omega)) (by rw[val_dg];exact hden)
  unfold qv at hl
  rw[zv_of,val_dg]at hl
  refine Ev.x N.rational_Mul rfl rfl ?_
  cases w1<;>cases w2
  ·(repeat' (first|(refine FlP.n4 ?_;conv=>whnf)|(refine AKM.x ?_;conv=>whnf)|(refine CallP.go (hr1) ?_;conv=>whnf)|(refine CallP.go (hr2) ?_;conv=>whnf)|(refine CallP.go (hM1 _ _) ?_;conv=>whnf)|(refine CallP.go (hM3 _ _) ?_;conv=>whnf)|(refine CallP.go (hl _ _) ?_;conv=>whnf)))
   exact FinP.go rfl (cl_eQ _)
  ·(repeat' (first|(refine FlP.n4 ?_;conv=>whnf)|(refine AKM.x ?_;conv=>whnf)|(refine CallP.go (hr1) ?_;conv=>whnf)|(refine CallP.go (hr2) ?_;conv=>whnf)|(refine CallP.go (hM1 _ _) ?_;conv=>whnf)|(refine CallP.go (hM3 _ _) ?_;conv=>whnf)|(refine CallP.go (hl _ _) ?_;conv=>whnf)))
   exact FinP.go rfl (cl_eQ _)
  ·(repeat' (first|(refine FlP.n4 ?_;conv=>whnf)|(refine AKM.x ?_;conv=>whnf)|(refine CallP.go (hr1) ?_;conv=>whnf)|(refine CallP.go (hr2) ?_;conv=>whnf)|(refine CallP.go (hM1 _ _) ?_;conv=>whnf)|(refine CallP.go (hM3 _ _) ?_;conv=>whnf)|(refine CallP.go (hl _ _) ?_;conv=>whnf)))
   exact FinP.go rfl (cl_eQ _)
  ·exact absurd ⟨rfl,rfl⟩ hw
theorem cl_eQt (x:Rat) (e:Int):Clean (.tup [.agg (eQ x),.int .i64 e]):=by
 simp only[Clean,CleanL,and_true,true_and]
 exact ⟨cl_dig _,cl_dig _⟩
theorem ev_rational_Div (N:RatGLib L) (k:Nat) (hk:1≤k∧k≤68719476736) (n1 n2 q1 q2 q3 q4:Bool) (m1 d1 m2 d2:List Nat) (hm1:Sm k m1) (hd1:Sm k d1) (hm2:Sm k m2) (hd2:Sm k d2) (h0:qv n2 m2 d2≠0) :
  Ev L 100 [.agg (rQ q1 q2 n1 m1 d1),.agg (rQ q3 q4 n2 m2 d2)] (.tup [.agg (eQ (qv n1 m1 d1/qv n2 m2 d2)),.int .i64 0]):=by
 obtain ⟨a1,a2,a3,w1,hr1,s1,s2,s3,s4,s5⟩:=ev_read N n1 m1 d1 k (by omega) hm1 hd1
 obtain ⟨b1,b2,b3,w2,hr2,t1,t2,t3,t4,t5⟩:=ev_read N n2 m2 d2 k (by omega) hm2 hd2
 rw[t5]at h0
 rw[s5,t5]
 have hb0:zv b1 b2≠0:=fun h=>h0 ((mk_num_zero t3).2 h)
 rw[mk_div s3 t3 hb0]
 have hS:=fun q=>ev_integer_Sign N b1 q b2 (t1.le (by omega))
 have hsg:sgn (zv b1 b2)≠0:=by unfold sgn;split<;>(try split)<;>omega
 have hM1:=fun q q'=>ev_integer_Mul N a1 false q q' a2 b3 s1.1 t2.1 (by have:=s1.2;have:=t2.2;omega)
 have hM2:=fun q q'=>ev_integer_Mul N false b1 q q' a3 b2 s2.1 t1.1 (by have:=t1.2;have:=s2.2;omega)
 have hna:=ev_natural N a3
 have hnb:=ev_natural N b3
 have g1:Sm (k+k) (dg (zv a1 a2*zv false b3).natAbs):=sm_zmul s1 t2
 have g2:Sm (k+k) (dg (zv false a3*zv b1 b2).natAbs):=sm_zmul s2 t1
 have hd:(zv false a3*zv b1 b2).natAbs=val a3*(zv b1 b2).natAbs:=by rw[Int.natAbs_mul,zv_abs]
 have hds:(zv false a3*zv b1 b2).sign=(zv b1 b2).sign:=by
  rw[Int.sign_mul,zv_F,Int.sign_eq_one_of_pos (by omega),Int.one_mul]
 have hy0:zv false a3*zv b1 b2≠0:=by
  intro h
  rw[h]at hds
  exact hb0 (by simpa using hds.symm)
 rw[←hd,←hds,←zv_F b3]
 generalize zv a1 a2*zv false b3=x at *
 generalize zv false a3*zv b1 b2=y at *
 generalize sgn (zv b1 b2)=sg at *
 have hl:=fun q1 q2=>ev_lowest N (decide (x<0) != decide (y<0)) q1 q2 (dg x.natAbs) (dg y.natAbs) (g1.le (by omega)) (g2.le (by omega)) (by rw[val_dg];omega)
 unfold qv at hl
 rw[zv_quot hy0,val_dg]at hl
 refine Ev.x N.rational_Div rfl rfl ?_
 (repeat' (first|(refine CmpP.go (fun hc => ?_) (fun hc => ?_)<;>first|(exfalso;omega)|(conv=>whnf))|(refine FlP.n4 ?_;conv=>whnf)|(refine FlP.n2 ?_;conv=>whnf)|(refine AKM.x ?_;conv=>whnf)|(refine CallP.go (hr1) ?_;conv=>whnf)|(refine CallP.go (hr2) ?_;conv=>whnf)|(refine CallP.go (hS _) ?_;conv=>whnf)|(refine CallP.go (hna) ?_;conv=>whnf)|(refine CallP.go (hnb) ?_;conv=>whnf)|(refine CallP.go (hM1 _ _) ?_;conv=>whnf)|(refine CallP.go (hM2 _ _) ?_;conv=>whnf)))
 refine CalP.walkC 1000 N.rational_quotient rfl rfl ?_
 (repeat' (refine AKM.x ?_;conv=>whnf))
 generalize decide (x<0)=p at *
 generalize decide (y<0)=r at *
 cases p<;>cases r
 all_goals
  (conv=>whnf)
  refine ⟨rfl,?_⟩
  (conv=>whnf)
  (repeat' (refine CallP.go (hl _ _) ?_;conv=>whnf))
  exact FinP.go rfl (cl_eQt _ _)
theorem ev_rational_Div0 (N:RatGLib L) (k:Nat) (hk:1≤k∧k≤68719476736) (n1 n2 q1 q2 q3 q4:Bool) (m1 d1 m2 d2:List Nat) (hm1:Sm k m1) (hd1:Sm k d1) (hm2:Sm k m2) (hd2:Sm k d2) (h0:qv n2 m2 d2=0) :
  Ev L 100 [.agg (rQ q1 q2 n1 m1 d1),.agg (rQ q3 q4 n2 m2 d2)] (.tup [.agg (rQ false false false [] []),.int .i64 3]):=by
 obtain ⟨a1,a2,a3,w1,hr1,s1,s2,s3,s4,s5⟩:=ev_read N n1 m1 d1 k (by omega) hm1 hd1
 obtain ⟨b1,b2,b3,w2,hr2,t1,t2,t3,t4,t5⟩:=ev_read N n2 m2 d2 k (by omega) hm2 hd2
 rw[t5,mk_num_zero t3]at h0
 have hS:=fun q=>ev_integer_Sign N b1 q b2 (t1.le (by omega))
 rw[h0,←sgn_zero rfl]at hS
 refine Ev.x N.rational_Div rfl rfl ?_
 (repeat' (first|(refine CmpP.go (fun hc => ?_) (fun hc => ?_)<;>first|(exfalso;omega)|(conv=>whnf))|(refine FlP.n4 ?_;conv=>whnf)|(refine AKM.x ?_;conv=>whnf)|(refine CallP.go (hr1) ?_;conv=>whnf)|(refine CallP.go (hr2) ?_;conv=>whnf)|(refine CallP.go (hS _) ?_;conv=>whnf)))
 refine FinP.go rfl ?_
 simp only[Clean,CleanL,and_true,true_and]
 exact ⟨cl_dig [],cl_dig []⟩
end Go.Eng

namespace Go.Eng
open F
variable {L:Lib}
theorem Bt.sm {k:Nat} {x:Rat} (h:Bt k x) (hk:k<2199023255552):Sm 68719476736 (dg x.num.natAbs)∧Sm 68719476736 (dg x.den):=h.dig (by omega)
theorem ev_addQ (N:RatGLib L) {x y:Rat} {k l:Nat} (hx:Bt k x) (hy:Bt l y) (hk:k<2199023255552) (hl:l<2199023255552):Ev L 98 [.agg (eQ x),.agg (eQ y)] (.agg (eQ (x+y))):=by
 have:=ev_rational_Add N 68719476736 (by omega) (decide (x.num<0)) (decide (y.num<0)) false false false false _ _ _ _ (hx.sm hk).1 (hx.sm hk).2 (hy.sm hl).1 (hy.sm hl).2
 rw[qv_of,qv_of]at this
 exact this
theorem ev_mulQ (N:RatGLib L) {x y:Rat} {k l:Nat} (hx:Bt k x) (hy:Bt l y) (hk:k<2199023255552) (hl:l<2199023255552):Ev L 99 [.agg (eQ x),.agg (eQ y)] (.agg (eQ (x*y))):=by
 have:=ev_rational_Mul N 68719476736 (by omega) (decide (x.num<0)) (decide (y.num<0)) false false false false _ _ _ _ (hx.sm hk).1 (hx.sm hk).2 (hy.sm hl).1 (hy.sm hl).2
 rw[qv_of,qv_of]at this
 exact this
theorem ev_divQ (N:RatGLib L) {x y:Rat} {k l:Nat} (hx:Bt k x) (hy:Bt l y) (hk:k<2199023255552) (hl:l<2199023255552) (h0:y≠0):Ev L 100 [.agg (eQ x),.agg (eQ y)] (.tup [.agg (eQ (x/y)),.int .i64 0]):=by
 have:=ev_rational_Div N 68719476736 (by omega) (decide (x.num<0)) (decide (y.num<0)) false false false false _ _ _ _ (hx.sm hk).1 (hx.sm hk).2 (hy.sm hl).1 (hy.sm hl).2 (by rw[qv_of];exact h0)
 rw[qv_of,qv_of]at this
 exact this
theorem ev_trimQ (N:RatGLib L) {x:Rat} {k:Nat} (hx:Bt k x) (hk:k<2199023255552):Ev L 95 [.agg (eQ x)] (.agg (eQ x)):=by
 have:=ev_rational_Trim N (decide (x.num<0)) false false _ _ ((hx.sm hk).1.le (by omega)) ((hx.sm hk).2.le (by omega))
 rw[qv_of]at this
 exact this
theorem ev_signQ (N:RatGLib L) {x:Rat} {k:Nat} (hx:Bt k x) (hk:k<2199023255552):Ev L 97 [.agg (eQ x)] (.int .i64 (sgn x.num)):=by
 have:=ev_rational_Sign N (decide (x.num<0)) false false _ _ ((hx.sm hk).1.le (by omega)) ((hx.sm hk).2.le (by omega))
 rw[qv_of]at this
 exact this
theorem sgn_num {x:Rat}:sgn x.num=0↔x=0:=by
 rw[←Rat.num_eq_zero]
 unfold sgn
 split
 ·omega
 ·split<;>omega
end Go.Eng

namespace Go.Eng
open F
attribute [local irreducible] AKM CmpP Req OpP UnP ConvP RdP LdR StR MkR LenP AppR AppN CpyR RowP SnR Bds SlS CallP CalP FinP pw LdM GetM SetM PutM MkM AppM SnM FlP CallR
set_option maxHeartbeats 4000000
variable {L:Lib}
theorem qv_not (n:Bool) (m d:List Nat):qv (!n) m d = -(qv n m d):=by
 unfold qv
 have h:zv (!n) m = -(zv n m):=by cases n<;>simp [zv]
 rw[h,Rat.neg_mkRat]
theorem cl_rQ (n:Bool) (m d:List Nat):Clean (.agg (rQ false false n m d)):=by
 simp only[Clean,CleanL,and_true,true_and]
 exact ⟨cl_dig _,cl_dig _⟩
theorem ev_flip (N:RatHLib L) (n:Bool) (m d:List Nat):Ev L 149 [.agg (rQ false false n m d)] (.agg (rQ false false (!n) m d)):=by
 refine Ev.x N.rational_flip rfl rfl ?_
 cases n
 all_goals
  (repeat' (refine AKM.x ?_;conv=>whnf))
  exact FinP.go rfl (cl_rQ _ _ _)
theorem ev_subQ (N:RatHLib L) {x y:Rat} {k l:Nat} (hx:Bt k x) (hy:Bt l y) (hk:k<2199023255552) (hl:l<2199023255552):Ev L 150 [.agg (eQ x),.agg (eQ y)] (.agg (eQ (x-y))):=by
 have hF:=ev_flip N (decide (y.num<0)) (dg y.num.natAbs) (dg y.den)
 have hA:=fun q3 q4=>ev_rational_Add N.toRatGLib 68719476736 (by omega) (decide (x.num<0)) (!decide (y.num<0)) false false q3 q4 _ _ _ _ (hx.sm hk).1 (hx.sm hk).2 (hy.sm hl).1 (hy.sm hl).2
 rw[qv_not,qv_of,qv_of,←Rat.sub_eq_add_neg]at hA
 refine Ev.x N.rational_Sub rfl rfl ?_
 (repeat' (first|(refine FlP.n3 ?_;conv=>whnf)|(refine AKM.x ?_;conv=>whnf)|(refine CallP.go (hF) ?_;conv=>whnf)|(refine CallP.go (hA _ _) ?_;conv=>whnf)))
 exact FinP.go rfl (cl_eQ _)
end Go.Eng

namespace Go.Eng
open F
attribute [local irreducible] AKM CmpP Req OpP UnP ConvP RdP LdR StR MkR LenP AppR AppN CpyR RowP SnR Bds SlS CallP CalP FinP pw LdM GetM SetM PutM MkM AppM SnM FlP CallR
set_option maxHeartbeats 8000000
variable {L:Lib}
theorem gD_of {l:List Rat} {i:Nat} {x:Rat} (h:l[i]? = some x):l.getD i 0=x:=by rw[List.getD_eq_getElem?_getD,h];rfl
theorem gD_ge {l:List Rat} {i:Nat} (h:l.length≤i):l.getD i 0=0:=by rw[List.getD_eq_getElem?_getD,List.getElem?_eq_none h];rfl
theorem ev_pTrim (N:PolyGLib L) (q:Bool) (l:List Rat) (k:Nat) (hl:Bs k l) (hk:k<2199023255552) (hn:l.length≤1000000):Ev L 170 [.sl q (l.map eQ)] (.sl false ((trimQ l).map eQ)):=by
 refine Ev.x N.poly_Trim rfl rfl ?_
 (repeat' (refine AKM.x ?_;conv=>whnf))
 refine CalP.walk 1000 N.poly_cut rfl rfl ?_
 (repeat' (first|(refine LenP.go ?_;conv=>whnf)|(refine AKM.x ?_;conv=>whnf)))
 refine AKM.loop1 (fun n=>n) (fun (n:Nat)=>n≤l.length∧cutN l l.length=cutN l n) (fun n=>[(3,.int .i64 n)]) (fun _=>[]) [] [] l.length (by (conv=>whnf);exact ⟨rfl,rfl,rfl⟩) ⟨Nat.le_refl _,rfl⟩ ?_
 intro n ⟨p1,p2⟩ ih
 have done : ∀ {n:Nat},cutN l l.length=n→trimQ l=l.take n:=fun h=>by rw[trimQ,h]
 by_cases hz:n=0∨(∃ m x,n=m+1∧l[m]? = some x∧x≠0)
 ·have hcut:cutN l l.length=n:=by
   rw[p2]
   rcases hz with rfl|⟨m,x,rfl,h1,h2⟩
   ·rfl
   ·rw[cutN,if_neg]
    rw[List.getD_eq_getElem?_getD,h1];exact h2
  have htq:=done hcut
  have htl:(l.take n).length=n:=by rw[List.length_take];omega
  clear ih hcut p2 done
  rcases hz with h0|⟨m,x,hnm,h1,h2⟩
  case' inl=>(repeat' (first|(refine CmpP.go (fun hc => ?_) (fun hc => ?_)<;>first|(exfalso;omega)|(conv=>whnf))|(refine AKM.x ?_;conv=>whnf)))
  case' inr =>
   have h1':l[((n:Int)-1).toNat]? = some x:=by rw[show ((n:Int)-1).toNat=m by omega];exact h1
   have hS':=ev_signQ N.toRatGLib (hl.at h1) (by omega)
   have hs:=sgn_num (x:=x)
   generalize sgn x.num=s at *
   have hS : ∀ v,l[((n:Int)-1).toNat]? = some v→Ev L 97 [.agg (eQ v)] (.int .i64 s):=fun v h=>by
    obtain rfl:=Option.some.inj (h1'.symm.trans h)
    exact hS'
   have hs0:s≠0:=fun h=>h2 (hs.1 h)
   (repeat' (first|(refine CmpP.go (fun hc => ?_) (fun hc => ?_)<;>first|(exfalso;omega)|(conv=>whnf))|(refine OpP.sub ?_ ?_;omega;conv=>whnf)|(refine RdP.at (by assumption) ?_ rfl ?_;omega;conv=>whnf)|(refine AKM.x ?_;conv=>whnf)|(refine CallP.go (hS') ?_;conv=>whnf)))
  all_goals
   refine SlS.to (enc:=eQ) (fun _=>rfl) p1 ?_
   (conv=>whnf)
   skip
   refine ⟨rfl,_,rfl,?_⟩
   (conv=>whnf)
   (repeat' (refine LenP.go ?_;conv=>whnf))
   refine MkR.go (enc:=eO) none n rfl (by rw[htl]) (by omega) ?_
   (conv=>whnf)
   skip
   refine AKM.loop1 (fun i=>n-i) (fun (i:Nat)=>i≤n) (fun i=>[(11,.int .i64 i)]) (fun i=>[(170008,170008,.rw 3 ((fillO (l.take i) n).map eO))]) [] [] 0 (by first|exact (by (conv=>whnf);exact ⟨rfl,rfl,rfl⟩)|(rw[List.take_zero,←fillO_nil];exact (by (conv=>whnf);exact ⟨rfl,rfl,rfl⟩))) (by omega) ?_
   intro i g1 ih
   by_cases hi:i<n
   ·all_goals try (exfalso;omega)
    all_goals
     obtain ⟨y,hy⟩ : ∃ y,l[i]? = some y:=⟨_,zE (by omega)⟩
     have hy':l[(i:Int).toNat]? = some y:=hy
     have hti:(l.take i).length=i:=by rw[List.length_take];omega
     have hlf:=fillO_len (l:=l.take i) (m:=n) (by omega)
     have hst:=fillO_set (l:=l.take i) (m:=n) (x:=y) (by omega)
     rw[hti,←take_snocQ hy]at hst
     have hT':=ev_trimQ N.toRatGLib (hl.at hy) (by omega)
     have hT : ∀ v,l[(i:Int).toNat]? = some v→Ev L 95 [.agg (eQ v)] (.agg (eQ y)):=fun v h=>by
      obtain rfl:=Option.some.inj (hy'.symm.trans h)
      exact hT'
     (repeat' (first|(refine CmpP.go (fun hc => ?_) (fun hc => ?_)<;>first|(exfalso;omega)|(conv=>whnf))|(refine Req.go ?_ ?_;omega;conv=>whnf)|(refine RdP.at (by assumption) ?_ rfl ?_;omega;conv=>whnf)|(refine AKM.x ?_;conv=>whnf)|(refine CallP.go (hT') ?_;conv=>whnf)))
     refine StR.nat (enc:=eO) (some y) rfl (fun e=>by cases e<;>rfl) (by omega) ?_
     (conv=>whnf)
     (repeat' (refine OpP.add ?_ ?_;omega;conv=>whnf))
     rw[hst]
     exact AKM.back [] (by (conv=>whnf);exact ⟨rfl,rfl,rfl⟩) (ih (i+1) (by omega) (by omega))
   ·obtain rfl:i=n:=by omega
    clear ih
    rw[fillO_full htl,←htq]at *
    rw[←htq]at htl
    (repeat' (first|(refine CmpP.go (fun hc => ?_) (fun hc => ?_)<;>first|(exfalso;omega)|(conv=>whnf))|(refine AKM.x ?_;conv=>whnf)))
    refine SnR.all (enc:=eQ) (fun _=>rfl) rfl htl.symm ?_
    (conv=>whnf)
    exact FinP.go rfl (by simp only[Clean,true_and];exact cl_eQs _)
 ·obtain ⟨m,rfl⟩ : ∃ m,n=m+1:=⟨n-1,by omega⟩
  obtain ⟨x,hx⟩ : ∃ x,l[m]? = some x:=⟨_,zE (by omega)⟩
  have hx0:x=0:=by
   rcases Classical.em (x=0) with h|h
   ·exact h
   ·exact (hz (Or.inr ⟨m,x,rfl,hx,h⟩)).elim
  have hx':l[((m+1:Nat)-1:Int).toNat]? = some x:=by rw[show ((m+1:Nat)-1:Int).toNat=m by omega];exact hx
  have hS':=ev_signQ N.toRatGLib (hl.at hx) (by omega)
  have hs:=sgn_num (x:=x)
  generalize sgn x.num=s at *
  have hS : ∀ v,l[((m+1:Nat)-1:Int).toNat]? = some v→Ev L 97 [.agg (eQ v)] (.int .i64 s):=fun v h=>by
   obtain rfl:=Option.some.inj (hx'.symm.trans h)
   exact hS'
  have hs0:=hs.2 hx0
  (repeat' (first|(refine CmpP.go (fun hc => ?_) (fun hc => ?_)<;>first|(exfalso;omega)|(conv=>whnf))|(refine OpP.sub ?_ ?_;omega;conv=>whnf)|(refine RdP.at (by assumption) ?_ rfl ?_;omega;conv=>whnf)|(refine AKM.x ?_;conv=>whnf)|(refine CallP.go (hS') ?_;conv=>whnf)))
  rw[show ((m+1:Nat):Int)-1=(m:Int) by omega]
  exact AKM.back [] (by (conv=>whnf);exact ⟨rfl,rfl,rfl⟩) (ih m (by omega) ⟨by omega,by rw[p2,cutN,if_pos (by rw[List.getD_eq_getElem?_getD,hx];exact hx0)]⟩)
end Go.Eng

namespace Go.Eng
open F
attribute [local irreducible] AKM CmpP Req OpP UnP ConvP RdP LdR StR MkR LenP AppR AppN CpyR RowP SnR Bds SlS CallP CalP FinP pw LdM GetM SetM PutM MkM AppM SnM FlP CallR
set_option maxHeartbeats 1000000
variable {L:Lib}
end Go.Eng

namespace Go.Eng
open F
attribute [local irreducible] AKM CmpP Req OpP UnP ConvP RdP LdR StR MkR LenP AppR AppN CpyR RowP SnR Bds SlS CallP CalP FinP pw LdM GetM SetM PutM MkM AppM SnM FlP CallR
set_option maxHeartbeats 1000000
variable {L:Lib} (n:Nt)
end Go.Eng

namespace Go.Eng
open F
attribute [local irreducible] AKM CmpP Req OpP UnP ConvP RdP LdR StR MkR LenP AppR AppN CpyR RowP SnR Bds SlS CallP CalP FinP pw LdM GetM SetM PutM MkM AppM SnM FlP CallR
set_option maxHeartbeats 4000000
variable {L:Lib}
end Go.Eng



namespace Go.Eng
open F
attribute [local irreducible] AKM CmpP Req OpP UnP ConvP RdP LdR StR MkR LenP AppR AppN CpyR RowP SnR Bds SlS CallP CalP FinP pw LdM GetM SetM PutM MkM AppM SnM FlP CallR
set_option maxHeartbeats 4000000
variable {L:Lib}
end Go.Eng

namespace Go.Eng
open F
attribute [local irreducible] AKM CmpP Req OpP UnP ConvP RdP LdR StR MkR LenP AppR AppN CpyR RowP SnR Bds SlS CallP CalP FinP pw LdM GetM SetM PutM MkM AppM SnM FlP CallR
set_option maxHeartbeats 4000000
variable {L:Lib}
theorem fillM_set {α:Type} (a b:α) {t m:Nat} (_:t≤m) (h:t<m):(List.replicate t a++List.replicate (m-t) b).set t a=List.replicate (t+1) a++List.replicate (m-(t+1)) b:=by
 obtain ⟨k,hk⟩ : ∃ k,m-t=k+1:=⟨m-t-1,by omega⟩
 rw[List.set_append_right _ _ (by simp),hk,List.length_replicate,Nat.sub_self,List.replicate_succ,List.set_cons_zero,show m-(t+1)=k by omega,List.replicate_succ',List.append_assoc]
 rfl
def fz {α:Type} (z:α) (l:List α) (m:Nat):List α:=l++List.replicate (m-l.length) z
theorem fz_len {α:Type} {z:α} {l:List α} {m:Nat} (h:l.length≤m):(fz z l m).length=m:=by simp [fz];omega
theorem fz_set {α:Type} {z x:α} {l:List α} {m:Nat} (h:l.length<m):(fz z l m).set l.length x=fz z (l++[x]) m:=by
 unfold fz
 obtain ⟨k,hk⟩ : ∃ k,m-l.length=k+1:=⟨m-l.length-1,by omega⟩
 rw[List.set_append_right _ _ (by simp),hk,Nat.sub_self,List.replicate_succ,List.set_cons_zero,List.length_append,List.length_singleton,show m-(l.length+1)=k by omega,List.append_assoc]
 rfl
theorem fz_at {α:Type} {z:α} {l:List α} {m:Nat} (h:l.length<m):(fz z l m)[l.length]? = some z:=by
 unfold fz
 rw[List.getElem?_append_right (by omega),Nat.sub_self,List.getElem?_replicate,if_pos (by omega)]
theorem fz_full {α:Type} {z:α} {l:List α} {m:Nat} (h:l.length=m):fz z l m=l:=by simp [fz,h]
theorem take_snocA {α:Type} {l:List α} {i:Nat} {x:α} (h:l[i]? = some x):l.take (i+1)=l.take i++[x]:=by
 rw[List.take_add_one,h];rfl
end Go.Eng

namespace Go.Eng
open F
attribute [local irreducible] AKM CmpP Req OpP UnP ConvP RdP LdR StR MkR LenP AppR AppN CpyR RowP SnR Bds SlS CallP CalP FinP pw LdM GetM SetM PutM MkM AppM SnM FlP CallR
set_option maxHeartbeats 16000000
variable {L:Lib}
def ot (P:List (List Rat)) (n j i:Nat):List (List (Option Rat)):=(List.range P.length).map fun r=>fillO ((P.getD r []).take (if r<i then j+1 else j)) n
theorem ot_len (P:List (List Rat)) (n j i:Nat):(ot P n j i).length=P.length:=by simp [ot]
theorem getD_row {P:List (List Rat)} {i:Nat} {row:List Rat} (h:P[i]? = some row):P.getD i []=row:=by rw[List.getD_eq_getElem?_getD,h];rfl
theorem ot_at {P:List (List Rat)} {n j i r:Nat} {row:List Rat} (h:P[r]? = some row):(ot P n j i)[r]? = some (fillO (row.take (if r<i then j+1 else j)) n):=by
 have h1:=(zS h).1
 simp only[ot,List.getElem?_map,List.getElem?_range h1,Option.map_some,getD_row h]
theorem ot_set {P:List (List Rat)} {n j i:Nat} {row:List Rat} (h:P[i]? = some row):(ot P n j i).set i (fillO (row.take (j+1)) n)=ot P n j (i+1):=by
 refine List.ext_getElem? fun r => ?_
 rw[List.getElem?_set,ot_len]
 cases e:P[r]? with
 | none =>
  have h1:=List.getElem?_eq_none_iff.1 e
  have h2:=(zS h).1
  rw[List.getElem?_eq_none (by rw[ot_len];exact h1),if_neg (by omega),List.getElem?_eq_none (by rw[ot_len];exact h1)]
 | some rw' =>
  rw[ot_at e,ot_at e]
  by_cases hi:i=r
  ·subst hi
   obtain rfl:=Option.some.inj (h.symm.trans e)
   have h2:=(zS h).1
   rw[if_pos rfl,if_pos h2,if_pos (by omega)]
  ·rw[if_neg hi]
   by_cases h3:r<i
   ·rw[if_pos h3,if_pos (by omega)]
   ·rw[if_neg h3,if_neg (by omega)]
theorem ot_next (P:List (List Rat)) (n j:Nat):ot P n j P.length=ot P n (j+1) 0:=by
 refine List.map_congr_left fun r hr => ?_
 rw[if_pos (List.mem_range.1 hr),if_neg (by omega)]
theorem ot_zero (P:List (List Rat)) (n:Nat):ot P n 0 0=List.replicate P.length (fillO [] n):=by
 refine List.ext_getElem? fun r => ?_
 simp only[ot,List.getElem?_map,List.getElem?_replicate]
 by_cases h:r<P.length
 ·rw[List.getElem?_range h,if_pos h];simp
 ·rw[List.getElem?_eq_none (by simp;omega),if_neg h];rfl
theorem ot_full {P:List (List Rat)} {n:Nat} (h : ∀ r∈P,r.length=n):mxR 3 eO (ot P n n 0)=mxR 3 eQ P:=by
 refine List.ext_getElem? fun r => ?_
 simp only[mxR,List.getElem?_map]
 cases e:P[r]? with
 | none=>rw[List.getElem?_eq_none (by rw[ot_len];exact List.getElem?_eq_none_iff.1 e)];rfl
 | some row =>
  have hl:=h row (zM e)
  rw[ot_at e,if_neg (by omega),List.take_of_length_le (by omega)]
  simp only[Option.map_some,fillO_full hl]
end Go.Eng

namespace Go.Eng
def hQ (S:SysQ):Nat→Rat
 | 0=>S.d
 | j+1=>dotQ S.c (wQ S j)
theorem cut_zero {l:List Rat} : ∀ {n i:Nat},cutN l n≤i→i<n→l.getD i 0=0
 | 0,i,_,h=>by omega
 | n+1,i,h,hi=>by
  rw[cutN]at h
  split at h
  ·rename_i h0
   by_cases e:i=n
   ·subst e;exact h0
   ·exact cut_zero h (by omega)
  ·omega
theorem trimQ_getD (l:List Rat) (i:Nat):(trimQ l).getD i 0=l.getD i 0:=by
 by_cases h:i<cutN l l.length
 ·have:=cutN_le l l.length
  rw[trimQ,List.getD_eq_getElem?_getD,List.getElem?_take_of_lt h,List.getD_eq_getElem?_getD]
 ·rw[gD_ge (by rw[trimQ_len];omega)]
  by_cases h2:i<l.length
  ·exact (cut_zero (by omega) h2).symm
  ·exact (gD_ge (by omega)).symm
end Go.Eng

namespace Go.Eng
theorem trimQ_last {r:List Rat} (h:trimQ r=r) (hn:r.length≠0):r.getD (r.length-1) 0≠0:=by
 have hl:=trimQ_len r
 rw[h]at hl
 obtain ⟨n,hn'⟩ : ∃ n,r.length=n+1:=⟨r.length-1,by omega⟩
 rw[hn',cutN]at hl
 rw[hn',Nat.add_sub_cancel]
 intro h0
 rw[if_pos h0]at hl
 have:=cutN_le r n
 omega
theorem trimQ_eq {l r:List Rat} (hr:trimQ r=r) (h : ∀ i,l.getD i 0=r.getD i 0):trimQ l=r:=by
 have ht:=trimQ_idem l
 have hg : ∀ i,(trimQ l).getD i 0=r.getD i 0:=fun i=>by rw[trimQ_getD,h]
 generalize trimQ l=t at *
 have hle:t.length=r.length:=by
  by_cases h1:t.length<r.length
  ·exact absurd (by rw[←hg];exact gD_ge (by omega)) (trimQ_last hr (by omega))
  ·by_cases h2:r.length<t.length
   ·exact absurd (by rw[hg];exact gD_ge (by omega)) (trimQ_last ht (by omega))
   ·omega
 refine List.ext_getElem? fun i => ?_
 by_cases hi:i<t.length
 ·have e1:t[i]? = some t[i]:=zE hi
  have e2:r[i]? = some (r[i]'(by omega)):=zE (by omega)
  have:=hg i
  rw[gD_of e1,gD_of e2]at this
  rw[e1,e2,this]
 ·rw[List.getElem?_eq_none (by omega),List.getElem?_eq_none (by omega)]
end Go.Eng

namespace Go.Eng
theorem sumP_map (h:Pt→Pt) (f:Pt→Rat) : ∀ g:List Pt,sumP (g.map h) f=sumP g fun p=>f (h p)
 | []=>rfl
 | p::g=>by rw[List.map_cons,sumP_cons,sumP_cons,sumP_map h f g]
def sclP (sx sy sw:Rat) (p:Pt):Pt:=⟨p.x*sx,p.y*sy,p.w*sw⟩
def pOf (s:Rat):List Rat→Rat→List Rat
 | [],_=>[]
 | z::c,f=>z*f::pOf s c (f*s)
theorem pOf_len (s:Rat) : ∀ (c:List Rat) (f:Rat),(pOf s c f).length=c.length
 | [],_=>rfl
 | _::c,f=>by rw[pOf,List.length_cons,pOf_len s c,List.length_cons]
theorem pOf_ev (s x:Rat) : ∀ (c:List Rat) (f:Rat),evQ (pOf s c f) x=f*evQ c (x*s)
 | [],f=>by simp only[pOf,evQ];grind
 | z::c,f=>by rw[pOf,evQ,evQ,pOf_ev s x c];grind
theorem mul_powQ (a b:Rat) : ∀ n:Nat,(a*b)^n=a^n*b^n
 | 0=>by rw[Rat.pow_zero,Rat.pow_zero,Rat.pow_zero];grind
 | n+1=>by rw[Rat.pow_succ,Rat.pow_succ,Rat.pow_succ,mul_powQ a b n];grind
theorem orth_scl {g:List Pt} {n:Nat} {c:List Rat} {sx sy sw:Rat} (hx:sx≠0) (hy:sy≠0) (hw:sw≠0) (h:Orth (g.map (sclP sx sy sw)) n c):Orth g n (pOf sx c (1/sy)):=fun k hk=>by
 have h1:=h k hk
 rw[sumP_map]at h1
 have hi:=Rat.div_mul_cancel hy (a:=1)
 generalize 1/sy=u at *
 rw[sumP_congr (h:=fun p=>(sw*sx^k*sy)*(p.w*p.x^k*(evQ (pOf sx c u) p.x-p.y))) fun p _=>by
  simp only[sclP,pOf_ev,mul_powQ]
  generalize evQ c (p.x*sx)=e
  have:e=sy*(u*e):=by rw[←Rat.mul_assoc,Rat.mul_comm sy,hi,Rat.one_mul]
  grind,sumP_mul]at h1
 rcases Rat.mul_eq_zero.1 h1 with h2|h2
 ·exfalso
  rcases Rat.mul_eq_zero.1 h2 with h3|h3
  ·rcases Rat.mul_eq_zero.1 h3 with h4|h4
   ·exact hw h4
   ·exact pow_neQ hx k h4
  ·exact hy h3
 ·exact h2
def subL (a b:List Rat):List Rat:=List.zipWith (· - ·) a b
theorem evQ_getD : ∀ (a b:List Rat) (x:Rat),(∀ i,a.getD i 0=b.getD i 0)→evQ a x=evQ b x
 | [],b,x,h=>by
  rw[evQ_zeros (p:=b) fun z hz=>by
   obtain ⟨i,hi⟩:=List.getElem?_of_mem hz
   have:=h i
   rw[List.getD_eq_getElem?_getD,List.getD_eq_getElem?_getD,hi]at this
   simpa using this.symm]
  rfl
 | u::a,[],x,h=>by
  rw[evQ_zeros (p:=u::a) fun z hz=>by
   obtain ⟨i,hi⟩:=List.getElem?_of_mem hz
   have:=h i
   rw[List.getD_eq_getElem?_getD,hi]at this
   simpa using this]
  rfl
 | u::a,v::b,x,h=>by
  have h0:u=v:=by simpa using h 0
  rw[evQ,evQ,h0,evQ_getD a b x fun i=>by simpa using h (i+1)]
theorem evQ_trim (p:List Rat) (x:Rat):evQ (trimQ p) x=evQ p x:=evQ_getD _ _ x (trimQ_getD p)
theorem errP_trim (g:List Pt) (p:List Rat):errP g (trimQ p)=errP g p:=sumP_congr fun q _=>by rw[evQ_trim]
theorem Orth.trim {g:List Pt} {n:Nat} {p:List Rat} (h:Orth g n p):Orth g n (trimQ p):=fun k hk=>by
 rw[←h k hk]
 exact sumP_congr fun q _=>by rw[evQ_trim]
def addG (p r:List Rat):List Rat:=(List.range (max p.length r.length)).map fun i=>p.getD i 0+r.getD i 0
theorem addG_getD (p r:List Rat) (i:Nat):(addG p r).getD i 0=p.getD i 0+r.getD i 0:=by
 rw[addG,getD_map_range]
 split
 ·rfl
 ·rw[List.getD_eq_getElem?_getD,List.getD_eq_getElem?_getD,List.getElem?_eq_none (by omega),List.getElem?_eq_none (by omega)]
  simp only[Option.getD_none];grind
theorem evQ_sum : ∀ (p r s:List Rat) (x:Rat),(∀ i,s.getD i 0=p.getD i 0+r.getD i 0)→evQ s x=evQ p x+evQ r x
 | [],r,s,x,h=>by
  rw[evQ_getD s r x fun i=>by rw[h i];simp only[List.getD_nil];grind]
  simp only[evQ];grind
 | u::p,[],s,x,h=>by
  rw[evQ_getD s (u::p) x fun i=>by rw[h i];simp only[List.getD_nil];grind]
  simp only[evQ];grind
 | u::p,v::r,[],x,h=>by
  have h0:(0:Rat)=u+v:=by simpa using h 0
  have ih:=evQ_sum p r [] x fun i=>by simpa using h (i+1)
  simp only[evQ]at ih ⊢
  grind
 | u::p,v::r,z::s,x,h=>by
  have h0:z=u+v:=by simpa using h 0
  have ih:=evQ_sum p r s x fun i=>by simpa using h (i+1)
  simp only[evQ,h0,ih];grind
end Go.Eng

namespace Go.Eng
def absQ (x:Rat):Rat:=if x.num<0 then -x else x
theorem absQ_ne {x:Rat} (h:x≠0):absQ x≠0:=by
 unfold absQ
 split
 ·intro e;exact h (by grind)
 ·exact h
theorem Bt.absL {k:Nat} {x:Rat} (h:Bt k x):Bt k (absQ x):=by
 unfold absQ
 split
 ·exact h.negL
 ·exact h
def comQ (a b:Rat):Rat:=if a=0 then absQ b else if b=0 then a else absQ (a/(((a/b).num:Int):Rat))
theorem num_ne {x:Rat} (h:x≠0):((x.num:Int):Rat)≠0:=by
 intro e
 have:((x.num:Int):Rat)=((0:Int):Rat):=e
 exact h (Rat.num_eq_zero.1 (Rat.intCast_inj.1 this))
theorem div_neQ {a b:Rat} (ha:a≠0) (hb:b≠0):a/b≠0:=by
 intro e
 have:=Rat.div_mul_cancel hb (a:=a)
 rw[e,Rat.zero_mul]at this
 exact ha this.symm
theorem comQ_ne {a b:Rat} (h:a≠0∨b≠0):comQ a b≠0:=by
 unfold comQ
 by_cases ha:a=0
 ·rw[if_pos ha]
  exact absQ_ne (h.resolve_left fun x=>x ha)
 ·rw[if_neg ha]
  by_cases hb:b=0
  ·rw[if_pos hb];exact ha
  ·rw[if_neg hb]
   exact absQ_ne (div_neQ ha (num_ne (div_neQ ha hb)))
theorem Bt.numL {k:Nat} {x:Rat} (h:Bt k x):Bt k ((x.num:Int):Rat):=Bt.ofInt h.1
theorem Bt.denL {k:Nat} {x:Rat} (h:Bt k x):Bt k (((x.den:Nat):Int):Rat):=Bt.ofInt (by simpa using h.2)
theorem comQ_bt {k l:Nat} {a b:Rat} (ha:Bt k a) (hb:Bt l b):Bt (2*k+l) (comQ a b):=by
 unfold comQ
 split
 ·exact hb.absL.le (by omega)
 ·split
  ·exact ha.le (by omega)
  ·exact ((ha.divL (ha.divL hb).numL).absL).le (by omega)
def meaQ (p:List Rat):Rat:=p.foldl comQ 0
theorem meaQ_snoc (p:List Rat) (x:Rat):meaQ (p++[x])=comQ (meaQ p) x:=by rw[meaQ,List.foldl_append];rfl
theorem meaQ_take {p:List Rat} {i:Nat} {x:Rat} (h:p[i]? = some x):meaQ (p.take (i+1))=comQ (meaQ (p.take i)) x:=by
 rw[List.take_add_one,h];exact meaQ_snoc _ _
theorem meaQ_bt {k:Nat} {p:List Rat} (h:Bs k p) : ∀ i,Bt ((2^i-1)*k) (meaQ (p.take i))
 | 0=>by rw[List.take_zero];exact Bt.zero _
 | i+1=>by
  have ih:=meaQ_bt h i
  have h1:1≤2^i:=Nat.one_le_two_pow
  have e:(2^(i+1)-1)*k=2*((2^i-1)*k)+k:=by
   rw[Nat.pow_succ]
   obtain ⟨c,hc⟩ : ∃ c,2^i=c+1:=⟨2^i-1,by omega⟩
   rw[hc,show (c+1)*2-1=2*c+1 by omega,Nat.add_sub_cancel,Nat.add_mul,Nat.one_mul,Nat.mul_assoc]
  rw[e]
  cases hx:p[i]? with
  | none =>
   rw[List.take_add_one,hx]
   simp only[Option.toList_none,List.append_nil]
   exact ih.le (by omega)
  | some x =>
   rw[meaQ_take hx]
   exact comQ_bt ih (h.at hx)
theorem meaQ_ne {p:List Rat} {x:Rat} (h:x≠0):meaQ (p++[x])≠0:=by rw[meaQ_snoc];exact comQ_ne (Or.inr h)
theorem meaQ_trim {p:List Rat} (h:trimQ p=p):p=[]∨meaQ p≠0:=by
 by_cases hl:p.length=0
 ·exact Or.inl (List.length_eq_zero_iff.1 hl)
 ·have h1:=trimQ_last h hl
  obtain ⟨n,hn⟩ : ∃ n,p.length=n+1:=⟨p.length-1,by omega⟩
  rw[hn,Nat.add_sub_cancel]at h1
  obtain ⟨x,hx⟩ : ∃ x,p[n]? = some x:=⟨_,zE (by omega)⟩
  rw[List.getD_eq_getElem?_getD,hx]at h1
  have e:p=p.take n++[x]:=by
   have:=List.take_add_one (l:=p) (i:=n)
   rw[hx,List.take_of_length_le (by omega)]at this
   exact this
  rw[e]
  exact Or.inr (meaQ_ne h1)
theorem evQ_mulR (r x:Rat) : ∀ p:List Rat,evQ (p.map (· / r)) x=evQ p x/r
 | []=>by simp only[List.map_nil,evQ,Rat.div_def];grind
 | c::p=>by
  have ih:=evQ_mulR r x p
  simp only[Rat.div_def]at ih
  simp only[List.map_cons,evQ,Rat.div_def,ih];grind
theorem evQ_drop {w:List Rat} {i:Nat} {c:Rat} (x:Rat) (h:w[i]? = some c):evQ (w.drop i) x=c+x*evQ (w.drop (i+1)) x:=by
 obtain ⟨hl,rfl⟩:=zS h
 rw[List.drop_eq_getElem_cons hl,evQ]
theorem mea_ev {p:List Rat} (h:trimQ p=p) (x:Rat):meaQ p*evQ (p.map (· / meaQ p)) x=evQ p x:=by
 rcases meaQ_trim h with rfl|h
 ·simp only[List.map_nil,evQ];grind
 ·rw[evQ_mulR,Rat.mul_comm,Rat.div_mul_cancel h]
end Go.Eng

namespace Go.Eng
theorem Wh.of_dvd {k S T:Nat} {x:Rat} (hT:1≤T) (h:Wh k (((S*T:Nat):Rat)*x)) (hz : ∃ z:Int,x*(S:Rat)=(z:Rat)):Wh k (x*(S:Rat)):=by
 obtain ⟨z,hz⟩:=hz
 obtain ⟨u,hu,hb⟩:=h
 refine ⟨z,hz,?_⟩
 have e:((z*(T:Int):Int):Rat)=(u:Rat):=by
  rw[Rat.intCast_mul,←hz,←hu,Rat.natCast_mul,Rat.intCast_natCast];grind
 have e2:=Rat.intCast_inj.1 e
 have:z.natAbs*T=u.natAbs:=by rw[←e2,Int.natAbs_mul,Int.natAbs_natCast]
 have h2:z.natAbs≤z.natAbs*T:=Nat.le_mul_of_pos_right _ (by omega)
 omega
theorem scQ_wh {M k m:Nat} {l:List Rat} (hM:1≤M) (hm:M≤2^m) (h : ∀ x∈l,Wh k ((M:Rat)*x)):Wh m (scQ l) ∧ ∀ x∈l,Wh k (x*scQ l):=by
 obtain ⟨S,e,⟨T,hT⟩,hz⟩:=scQ_whole (M:=M) (l:=l) fun x hx=>by
  obtain ⟨z,hz,_⟩:=h x hx
  exact ⟨z,hz⟩
 have hT1:1≤T:=by
  rcases Nat.eq_zero_or_pos T with h0|h0
  ·rw[h0]at hT;omega
  ·exact h0
 refine ⟨⟨(S:Int),by rw[e,Rat.intCast_natCast],?_⟩,fun x hx => ?_⟩
 ·rw[Int.natAbs_natCast]
  have:S≤S*T:=Nat.le_mul_of_pos_right _ (by omega)
  omega
 ·have h1:=h x hx
  rw[hT]at h1
  rw[e]
  exact Wh.of_dvd hT1 h1 (by rw[←e];exact hz x hx)
theorem scF_int {x:Rat} (h : ∃ z:Int,x=(z:Rat)):scF 1 x=1:=by
 obtain ⟨z,rfl⟩:=h
 rw[scF,Rat.one_mul,Rat.one_mul,Rat.den_intCast];rfl
theorem scQ_int : ∀ {l:List Rat},(∀ x∈l,∃ z:Int,x=(z:Rat))→scQ l=1
 | [],_=>rfl
 | x::l,h=>by
  have:=scQ_int (l:=l) fun y hy=>h y (List.mem_cons_of_mem _ hy)
  rw[scQ]at this
  rw[scQ,List.foldl_cons,scF_int (h x List.mem_cons_self),this]
theorem whole_int {m:List (List Rat)} (h : ∀ r∈m,∀ x∈r,∃ z:Int,x=(z:Rat)):whole m=m:=by
 rw[whole]
 refine (List.map_congr_left fun r hr => ?_).trans (List.map_id m)
 rw[scQ_int (h r hr)]
 exact (List.map_congr_left fun x _=>Rat.mul_one x).trans (List.map_id r)
theorem sumP_wh {k:Nat} {f:Pt→Rat} : ∀ {g:List Pt},(∀ p∈g,Wh k (f p))→Wh (k+g.length) (sumP g f)
 | [],_=>Wh.zero _
 | p::g,h=>by
  rw[sumP_cons,List.length_cons,←Nat.add_assoc]
  exact ((h p List.mem_cons_self).le (by omega)).add (sumP_wh fun q hq=>h q (List.mem_cons_of_mem _ hq))
theorem sumP_bt {k:Nat} {f:Pt→Rat} : ∀ {g:List Pt},(∀ p∈g,Bt k (f p))→Bt (g.length*(k+1)) (sumP g f)
 | [],_=>Bt.zero _
 | p::g,h=>by
  rw[sumP_cons,List.length_cons,Nat.add_mul,Nat.one_mul]
  exact ((h p List.mem_cons_self).add (sumP_bt fun q hq=>h q (List.mem_cons_of_mem _ hq))).le (by omega)
theorem evQ_bt {k j:Nat} {x:Rat} (hx:Bt j x) : ∀ {p:List Rat},Bs k p→Bt (p.length*(k+j+1)) (evQ p x)
 | [],_=>Bt.zero _
 | c::p,h=>by
  rw[evQ,List.length_cons,Nat.add_mul,Nat.one_mul]
  exact ((h c List.mem_cons_self).add (hx.mul (evQ_bt hx fun z hz=>h z (List.mem_cons_of_mem _ hz)))).le (by omega)
structure GridW (M ky:Nat) (g:List Pt):Prop where
 len:1≤g.length∧g.length≤12
 lt:(g.map (·.x)).Pairwise (· < ·)
 pos : ∀ p∈g,0<p.w
 wx : ∀ p∈g,Wh 6 (((12:Nat):Rat)*p.x)
 ww : ∀ p∈g,Wh 7 (((12:Nat):Rat)*p.w)
 wy : ∀ p∈g,Wh ky ((M:Rat)*p.y)
theorem Bt.of_wh {M k m:Nat} {x:Rat} (hM:1≤M) (hm:M≤2^m) (h:Wh k ((M:Rat)*x)):Bt (k+m) x:=by
 have h0:(M:Rat)≠0:=fun e=>by
  have:(M:Rat)=((0:Nat):Rat):=e
  have:=Rat.natCast_inj.1 this
  omega
 have e:x=((M:Rat)*x)/(M:Rat):=by
  have:=Rat.mul_inv_cancel (M:Rat) h0
  rw[Rat.div_def];grind
 rw[e]
 exact h.bt.divL (by
  have:=Bt.ofInt (k:=m) (z:=(M:Int)) (by simpa using hm)
  rwa [Rat.intCast_natCast]at this)
section
variable {M ky:Nat} {g:List Pt}
theorem GridW.ok (h:GridW M ky g):GridOk g:=⟨h.lt.imp fun hlt e=>by rw[e]at hlt;exact absurd hlt (Rat.lt_irrefl),h.pos⟩
theorem GridW.bx (h:GridW M ky g) {p:Pt} (hp:p∈g):Bt 10 p.x:=Bt.of_wh (m:=4) (by omega) (by decide) (h.wx p hp)
theorem GridW.bw (h:GridW M ky g) {p:Pt} (hp:p∈g):Bt 11 p.w:=Bt.of_wh (m:=4) (by omega) (by decide) (h.ww p hp)
def sGrid (g:List Pt):List Pt:=g.map (sclP (scQ (g.map (·.x))) (scQ (g.map (·.y))) (scQ (g.map (·.w))))
structure GridS (ky:Nat) (g:List Pt):Prop where
 ok:GridOk g
 wx : ∀ p∈g,Wh 6 p.x
 ww : ∀ p∈g,Wh 7 p.w
 wy : ∀ p∈g,Wh ky p.y
theorem GridW.scl (h:GridW M ky g) (hM:1≤M) {m:Nat} (hm:M≤2^m):Wh 4 (scQ (g.map (·.x)))∧Wh m (scQ (g.map (·.y)))∧Wh 4 (scQ (g.map (·.w)))∧0<scQ (g.map (·.x))∧0<scQ (g.map (·.w))∧GridS ky (sGrid g):=by
 obtain ⟨a1,a2⟩:=scQ_wh (M:=12) (m:=4) (k:=6) (l:=g.map (·.x)) (by omega) (by decide) (fun x hx=>by
  obtain ⟨p,hp,rfl⟩:=List.mem_map.1 hx
  exact h.wx p hp)
 obtain ⟨b1,b2⟩:=scQ_wh (M:=M) (m:=m) (k:=ky) (l:=g.map (·.y)) hM hm (fun x hx=>by
  obtain ⟨p,hp,rfl⟩:=List.mem_map.1 hx
  exact h.wy p hp)
 obtain ⟨c1,c2⟩:=scQ_wh (M:=12) (m:=4) (k:=7) (l:=g.map (·.w)) (by omega) (by decide) (fun x hx=>by
  obtain ⟨p,hp,rfl⟩:=List.mem_map.1 hx
  exact h.ww p hp)
 have pos : ∀ (l:List Rat) (N:Nat),1≤N→(∀ x∈l,∃ z:Int,(N:Rat)*x=(z:Rat))→0<scQ l:=fun l N hN hz=>by
  obtain ⟨S,e,⟨T,hT⟩,_⟩:=scQ_whole hz
  rw[e]
  have:0<S:=by
   rcases Nat.eq_zero_or_pos S with h0|h0
   ·rw[h0]at hT;omega
   ·exact h0
  exact Rat.natCast_pos.2 this
 have px:0<scQ (g.map (·.x)):=pos _ 12 (by omega) (fun x hx=>by
  obtain ⟨p,hp,rfl⟩:=List.mem_map.1 hx
  obtain ⟨z,hz,_⟩:=h.wx p hp
  exact ⟨z,hz⟩)
 have pw:0<scQ (g.map (·.w)):=pos _ 12 (by omega) (fun x hx=>by
  obtain ⟨p,hp,rfl⟩:=List.mem_map.1 hx
  obtain ⟨z,hz,_⟩:=h.ww p hp
  exact ⟨z,hz⟩)
 refine ⟨a1,b1,c1,px,pw,⟨?_,fun p hp => ?_⟩,fun p hp => ?_,fun p hp => ?_,fun p hp => ?_⟩
 ·rw[sGrid,List.map_map,List.pairwise_map]
  have h1:=h.lt
  rw[List.pairwise_map]at h1
  refine h1.imp fun hlt e => ?_
  simp only[Function.comp,sclP]at e
  have:=mul_cancelQ (fun h0=>by rw[h0]at px;exact absurd px (Rat.lt_irrefl)) e
  rw[this]at hlt
  exact absurd hlt (Rat.lt_irrefl)
 ·obtain ⟨q,hq,rfl⟩:=List.mem_map.1 hp
  exact Rat.mul_pos (h.pos q hq) pw
 ·obtain ⟨q,hq,rfl⟩:=List.mem_map.1 hp
  exact a2 _ (List.mem_map.2 ⟨q,hq,rfl⟩)
 ·obtain ⟨q,hq,rfl⟩:=List.mem_map.1 hp
  exact c2 _ (List.mem_map.2 ⟨q,hq,rfl⟩)
 ·obtain ⟨q,hq,rfl⟩:=List.mem_map.1 hp
  exact b2 _ (List.mem_map.2 ⟨q,hq,rfl⟩)
theorem GridS.mom (h:GridS ky g) (k:Nat):Wh (7+k*6+g.length) (mom g k):=sumP_wh fun p hp=>(h.ww p hp).mul ((h.wx p hp).pow k)
theorem GridS.rhs (h:GridS ky g) (k:Nat):Wh (7+k*6+ky+g.length) (rhs g k):=sumP_wh fun p hp=>((h.ww p hp).mul ((h.wx p hp).pow k)).mul (h.wy p hp)
theorem gram_wh (h:GridS ky g) (hl:g.length≤12) {n:Nat} (hn:n≤6) : ∀ r∈gramL g n,∀ x∈r,Wh 80 x:=fun r hr x hx=>by
 obtain ⟨i,hi,rfl⟩:=List.mem_map.1 hr
 obtain ⟨j,hj,rfl⟩:=List.mem_map.1 hx
 have:=List.mem_range.1 hi
 have:=List.mem_range.1 hj
 exact (h.mom (i+j)).le (by omega)
theorem rhs_wh (h:GridS ky g) (hl:g.length≤12) {n:Nat} (hn:n≤6) {k:Nat} (hk:49+ky≤k) : ∀ x∈rhsL g n,Wh k x:=fun x hx=>by
 obtain ⟨i,hi,rfl⟩:=List.mem_map.1 hx
 have:=List.mem_range.1 hi
 exact (h.rhs i).le (by omega)
end
end Go.Eng

namespace Go.Eng
theorem wh_frac {M k:Nat} {a b:Int} {T:Int} (hb:1≤b) (hT:b*T=(M:Int)) (ha:(T*a).natAbs≤2^k):Wh k ((M:Rat)*Rat.divInt a b):=by
 refine ⟨T*a,?_,ha⟩
 have h0:(b:Rat)≠0:=fun e=>by
  have:(b:Rat)=((0:Int):Rat):=e
  have:=Rat.intCast_inj.1 this
  omega
 have h1:=Rat.div_mul_cancel h0 (a:=(a:Rat))
 rw[Rat.divInt_eq_div,show ((M:Nat):Rat)=((b*T:Int):Rat) by rw[hT,Rat.intCast_natCast],Rat.intCast_mul,Rat.intCast_mul]
 generalize (a:Rat)/(b:Rat)=q at *
 rw[←h1]
 grind
theorem wh_840 {a b:Int} (ha : -12≤a∧a≤12) (hb:1≤b∧b≤8):Wh 14 (((840:Nat):Rat)*Rat.divInt a b):=by
 have:b=1∨b=2∨b=3∨b=4∨b=5∨b=6∨b=7∨b=8:=by omega
 rcases this with rfl|rfl|rfl|rfl|rfl|rfl|rfl|rfl
 ·exact wh_frac (T:=840) (by omega) (by decide) (by omega)
 ·exact wh_frac (T:=420) (by omega) (by decide) (by omega)
 ·exact wh_frac (T:=280) (by omega) (by decide) (by omega)
 ·exact wh_frac (T:=210) (by omega) (by decide) (by omega)
 ·exact wh_frac (T:=168) (by omega) (by decide) (by omega)
 ·exact wh_frac (T:=140) (by omega) (by decide) (by omega)
 ·exact wh_frac (T:=120) (by omega) (by decide) (by omega)
 ·exact wh_frac (T:=105) (by omega) (by decide) (by omega)
theorem wh_12 {a b:Int} (ha:1≤a∧a≤8) (hb:1≤b∧b≤4):Wh 7 (((12:Nat):Rat)*Rat.divInt a b):=by
 have:b=1∨b=2∨b=3∨b=4:=by omega
 rcases this with rfl|rfl|rfl|rfl
 ·exact wh_frac (T:=12) (by omega) (by decide) (by omega)
 ·exact wh_frac (T:=6) (by omega) (by decide) (by omega)
 ·exact wh_frac (T:=4) (by omega) (by decide) (by omega)
 ·exact wh_frac (T:=3) (by omega) (by decide) (by omega)
theorem frac_pos {a b:Int} (ha:0<a) (hb:0<b):0<Rat.divInt a b:=by
 rw[Rat.divInt_eq_div,Rat.div_def]
 exact Rat.mul_pos (Rat.intCast_pos.2 ha) (Rat.inv_pos.2 (Rat.intCast_pos.2 hb))
structure GridI (g:List Pt) (i:Nat) (x:Rat):Prop where
 len:g.length=i
 lt:(g.map (·.x)).Pairwise (· < ·)
 nx : ∀ p∈g,p.x<x
 pos : ∀ p∈g,0<p.w
 at' : ∃ z:Int,((12:Nat):Rat)*x=(z:Rat) ∧ -12≤z∧z ≤ -12+4*i
 wx : ∀ p∈g,Wh 6 (((12:Nat):Rat)*p.x)
 ww : ∀ p∈g,Wh 7 (((12:Nat):Rat)*p.w)
 wy : ∀ p∈g,Wh 14 (((840:Nat):Rat)*p.y)
theorem GridI.start:GridI [] 0 ((-1:Int):Rat):=⟨rfl,List.Pairwise.nil,fun p hp=>(by cases hp),fun p hp=>(by cases hp),⟨-12,by
 show ((12:Nat):Rat)*((-1:Int):Rat)=((-12:Int):Rat)
 grind,by omega,by omega⟩,fun p hp=>(by cases hp),fun p hp=>(by cases hp),fun p hp=>(by cases hp)⟩
theorem GridI.step {g:List Pt} {i:Nat} {x:Rat} (h:GridI g i x) (hi:i<12) {a b c d s:Int} (ha : -12≤a∧a≤12) (hb:1≤b∧b≤8) (hc:1≤c∧c≤8) (hd:1≤d∧d≤4) (hs:1≤s∧s≤4) :
  GridI (g++[⟨x,Rat.divInt a b,Rat.divInt c d⟩]) (i+1) (x+Rat.divInt s 12):=by
 obtain ⟨z,hz,z1,z2⟩:=h.at'
 have hsp:=frac_pos (a:=s) (b:=12) (by omega) (by omega)
 have hlt:x<x+Rat.divInt s 12:=by grind
 have mem : ∀ {P:Pt→Prop},(∀ p∈g,P p)→P ⟨x,Rat.divInt a b,Rat.divInt c d⟩ → ∀ p∈g++[⟨x,Rat.divInt a b,Rat.divInt c d⟩],P p:=fun h1 h2 p hp=>by
  rcases List.mem_append.1 hp with hp|hp
  ·exact h1 p hp
  ·rw[List.mem_singleton.1 hp];exact h2
 refine ⟨by rw[List.length_append,h.len];rfl,?_,mem (fun p hp => ?_) hlt,mem h.pos (frac_pos (by omega) (by omega)),⟨z+s,?_,by omega,by omega⟩,mem h.wx ⟨z,hz,?_⟩,mem h.ww (wh_12 hc hd),mem h.wy (wh_840 ha hb)⟩
 ·rw[List.map_append,List.pairwise_append]
  refine ⟨h.lt,by simp,fun u hu v hv => ?_⟩
  obtain ⟨p,hp,rfl⟩:=List.mem_map.1 hu
  obtain rfl:v=x:=by simpa using hv
  exact h.nx p hp
 ·have:=h.nx p hp;grind
 ·obtain ⟨u,hu,_⟩:=wh_frac (M:=12) (k:=6) (a:=s) (b:=12) (T:=1) (by omega) (by decide) (by omega)
  have h12:(((12:Nat):Rat))*Rat.divInt s 12=(s:Rat):=by
   have h1:=Rat.div_mul_cancel (show ((12:Int):Rat)≠0 by decide) (a:=(s:Rat))
   rw[Rat.divInt_eq_div,Rat.mul_comm]
   exact h1
  rw[Rat.intCast_add,←hz,←h12];grind
 ·show z.natAbs≤2^6
  omega
theorem GridI.fin {g:List Pt} {i:Nat} {x:Rat} (h:GridI g i x) (h1:1≤i∧i≤12):GridW 840 14 g:=⟨by rw[h.len];exact h1,h.lt,h.pos,h.wx,h.ww,h.wy⟩
theorem GridI.bx {g:List Pt} {i:Nat} {x:Rat} (h:GridI g i x) (hi:i≤12):Bt 10 x:=by
 obtain ⟨z,hz,z1,z2⟩:=h.at'
 exact Bt.of_wh (m:=4) (M:=12) (k:=6) (by omega) (by decide) ⟨z,hz,show z.natAbs≤2^6 by omega⟩
end Go.Eng

namespace Go.Eng
open F
attribute [local irreducible] AKM CmpP Req OpP UnP ConvP RdP LdR StR MkR LenP AppR AppN CpyR RowP SnR Bds SlS CallP CalP FinP pw LdM GetM SetM PutM MkM AppM SnM FlP CallR
attribute [local irreducible] CalS
set_option maxHeartbeats 16000000
variable {L:Lib}
def eP (p:Pt):List AV:=eQ p.x++(eQ p.y++eQ p.w)
theorem cl_ePs (g:List Pt):CleanLL (g.map eP):=cleanLL_map (fun p=>by
 show CleanL [_,_,_,_,_,_,_,_,_]
 simp only[CleanL,Clean,and_true,true_and]
 exact ⟨cl_dig _,cl_dig _,cl_dig _,cl_dig _,cl_dig _,cl_dig _⟩) g
theorem ev_mRat (N:GrdGLib L) (n:Int) (hn:InI n) : ∃ a b:Int,(-12≤a∧a≤12)∧(1≤b∧b≤8)∧Ev L 252 [.int .i64 n] (.agg (eQ (Rat.divInt a b))):=by
 suffices h : ∃ v,Ev L 252 [.int .i64 n] v ∧ ∃ a b:Int,v = .agg (eQ (Rat.divInt a b))∧(-12≤a∧a≤12)∧(1≤b∧b≤8) by
  obtain ⟨v,h1,a,b,rfl,h2,h3⟩:=h
  exact ⟨a,b,h2,h3,h1⟩
 unfold InI at hn
 have hM1:=ev_Mod N.toMakGLib n 25 (by unfold InI;omega) (by omega)
 have a1:=Int.emod_nonneg n (show (25:Int)≠0 by omega)
 have a2:=Int.emod_lt_of_pos n (show (0:Int)<25 by omega)
 have hM2:=fun (u:Int) (hu:InI u)=>ev_Mod N.toMakGLib u 8 hu (by omega)
 have hF:=fun (u:Int) (hu:0≤u∧u<8)=>ev_r3_Frac N.toRefGLib (n%25-12) (1+u) (by omega) (by omega)
 generalize n%25=r at *
 refine Ev.xE N.make_Rat rfl rfl ?_
 (repeat' (first|(refine OpP.sub ?_ ?_;omega;conv=>whnf)|(refine OpP.quo ?_ ?_ (fun _ => ?_) (fun _ _ => ?_);omega;omega;all_goals first|(exfalso;omega)|(conv=>whnf))|(refine AKM.x ?_;conv=>whnf)|(refine CallP.go (hM1) ?_;conv=>whnf)))
 ·have hM:=hM2 (n/25) (by unfold InI;omega)
  have b1:=Int.emod_nonneg (n/25) (show (8:Int)≠0 by omega)
  have b2:=Int.emod_lt_of_pos (n/25) (show (0:Int)<8 by omega)
  generalize n/25%8=u at *
  have hF:=hF u (by omega)
  (repeat' (first|(refine OpP.add ?_ ?_;omega;conv=>whnf)|(refine CallP.go (hM) ?_;conv=>whnf)|(refine CallP.go (hF) ?_;conv=>whnf)))
  refine ⟨.agg (eQ (Rat.divInt (r-12) (1+u))),?_,_,_,rfl,by omega,by omega⟩
  (conv=>whnf)
  exact FinP.go rfl (cl_eQ _)
 ·have hM:=hM2 (n/25+1) (by unfold InI;omega)
  have b1:=Int.emod_nonneg (n/25+1) (show (8:Int)≠0 by omega)
  have b2:=Int.emod_lt_of_pos (n/25+1) (show (0:Int)<8 by omega)
  generalize (n/25+1)%8=u at *
  have hF:=hF u (by omega)
  (repeat' (first|(refine OpP.add ?_ ?_;omega;conv=>whnf)|(refine CallP.go (hM) ?_;conv=>whnf)|(refine CallP.go (hF) ?_;conv=>whnf)))
  refine ⟨.agg (eQ (Rat.divInt (r-12) (1+u))),?_,_,_,rfl,by omega,by omega⟩
  (conv=>whnf)
  exact FinP.go rfl (cl_eQ _)
theorem bt_mrat {a b:Int} (ha : -12≤a∧a≤12) (hb:1≤b∧b≤8):Bt 24 (Rat.divInt a b):=Bt.of_wh (m:=10) (M:=840) (k:=14) (by omega) (by decide) (wh_840 ha hb)
theorem ev_mRats (N:GrdGLib L) (q:Bool) (l:List Int) (hl:l.length<9223372036854775808) (hl2:l.length≤1000) (hv : ∀ v∈l,InI v) :
  ∃ w:List Rat,w.length=l.length∧Bs 24 w∧(∀ x∈w,Wh 14 (((840:Nat):Rat)*x))∧Ev L 253 [.sl q (l.map encInt)] (.sl false (w.map eQ)):=by
 suffices h : ∃ v,Ev L 253 [.sl q (l.map encInt)] v ∧ ∃ w:List Rat,v = .sl false (w.map eQ)∧w.length=l.length∧Bs 24 w∧(∀ x∈w,Wh 14 (((840:Nat):Rat)*x)) by
  obtain ⟨v,h1,w,rfl,h2,h3,h4⟩:=h
  exact ⟨w,h2,h3,h4,h1⟩
 refine Ev.xE N.make_Rats rfl rfl ?_
 (repeat' (first|(refine LenP.go ?_;conv=>whnf)|(refine AKM.x ?_;conv=>whnf)))
 refine AKM.loop2 (fun _ i=>l.length-i) (fun (w:List Rat) (i:Nat)=>w.length=i∧i≤l.length∧Bs 24 w ∧ ∀ x∈w,Wh 14 (((840:Nat):Rat)*x)) (fun _ i=>[(8,.int .i64 i),(3,.row 3 0 3 0 i)]) (fun w _=>[(3,3,.rw 3 (w.map eQ))]) [] [] [] 0 (by (conv=>whnf);exact ⟨rfl,rfl,rfl⟩) ⟨rfl,by omega,(fun x hx=>by cases hx),(fun x hx=>by cases hx)⟩ ?_
 intro w i ⟨p0,p1,p2,p3⟩ ih
 by_cases hi:i<l.length
 ·obtain ⟨x,hx⟩ : ∃ x,l[i]? = some x:=⟨_,zE hi⟩
  have hx':l[(i:Int).toNat]? = some x:=hx
  obtain ⟨a,b,ha,hb,hR⟩:=ev_mRat N x (hv x (zM hx))
  have hbt:=bt_mrat ha hb
  have hwh:=wh_840 ha hb
  generalize Rat.divInt a b=y at *
  (repeat' (first|(refine CmpP.go (fun hc => ?_) (fun hc => ?_)<;>first|(exfalso;omega)|(conv=>whnf))|(refine RdP.at (by assumption) ?_ rfl ?_;omega;conv=>whnf)|(refine RowP.e1 ?_;conv=>whnf)|(refine AKM.x ?_;conv=>whnf)|(refine CallP.go (hR) ?_;conv=>whnf)))
  refine AppR.one (enc:=eQ) y rfl p0.symm rfl (by omega) (by omega) ?_
  rw[show (w++[y]).length=i+1 by simp [p0]]
  (conv=>whnf)
  (repeat' (refine OpP.add ?_ ?_;omega;conv=>whnf))
  refine AKM.back [(3,16)] (by (conv=>whnf);exact ⟨rfl,rfl,rfl⟩) (ih (w++[y]) (i+1) (by omega) ⟨by simp [p0],by omega,fun z hz => ?_,fun z hz => ?_⟩)
  ·rcases List.mem_append.1 hz with h|h
   ·exact p2 z h
   ·obtain rfl:=List.mem_singleton.1 h;exact hbt
  ·rcases List.mem_append.1 hz with h|h
   ·exact p3 z h
   ·obtain rfl:=List.mem_singleton.1 h;exact hwh
 ·have ei:i=l.length:=by omega
  clear ih
  (repeat' (first|(refine CmpP.go (fun hc => ?_) (fun hc => ?_)<;>first|(exfalso;omega)|(conv=>whnf))|(refine AKM.x ?_;conv=>whnf)))
  refine ⟨.sl false (w.map eQ),?_,w,rfl,by omega,p2,p3⟩
  (conv=>whnf)
  refine SnR.all (enc:=eQ) (fun _=>rfl) rfl p0.symm ?_
  (conv=>whnf)
  exact FinP.go rfl (by simp only[Clean,true_and];exact cl_eQs w)
theorem ev_mPoly (N:GrdGLib L) (q:Bool) (l:List Int) (d:Nat) (hd:d≤100) (hl:l.length<9223372036854775808) (hv : ∀ v∈l,InI v) :
  ∃ p:List Rat,trimQ p=p∧p.length≤d+1∧Bs 24 p∧(∀ x∈p,Wh 14 (((840:Nat):Rat)*x))∧Ev L 254 [.sl q (l.map encInt),.int .i64 d] (.sl false (p.map eQ)):=by
 have hT : ∀ (w:List Rat),Bs 24 w→w.length≤1000→Ev L 171 [.sl false (w.map eQ)] (.sl false ((trimQ w).map eQ)):=fun w hw hl=>ev_r5_Trim N.toR05GLib false w 24 hw (by omega) (by omega)
 by_cases hlong:d+1<l.length
 ·obtain ⟨w,h1,h2,h3,h4⟩:=ev_mRats N q (l.take (d+1)) (by rw[List.length_take];omega) (by rw[List.length_take];omega) fun v hv2=>hv v (List.mem_of_mem_take hv2)
  rw[List.length_take]at h1
  have h5:=hT w h2 (by omega)
  refine ⟨trimQ w,trimQ_idem w,by rw[trimQ_len];have:=cutN_le w w.length;omega,h2.trim,fun x hx=>h3 x (List.mem_of_mem_take hx),?_⟩
  refine Ev.x N.make_Poly rfl rfl ?_
  (repeat' (first|(refine CmpP.go (fun hc => ?_) (fun hc => ?_)<;>first|(exfalso;omega)|(conv=>whnf))|(refine OpP.add ?_ ?_;omega;conv=>whnf)|(refine LenP.go ?_;conv=>whnf)|(refine AKM.x ?_;conv=>whnf)))
  refine SlS.to (enc:=encInt) (k:=d+1) (fun _=>rfl) (by omega) ?_
  (conv=>whnf)
  (repeat' (first|(refine CallP.go (h4) ?_;conv=>whnf)|(refine CallP.go (h5) ?_;conv=>whnf)))
  exact FinP.go rfl (by simp only[Clean,true_and];exact cl_eQs _)
 ·obtain ⟨w,h1,h2,h3,h4⟩:=ev_mRats N q l hl (by omega) hv
  have h5:=hT w h2 (by omega)
  refine ⟨trimQ w,trimQ_idem w,by rw[trimQ_len];have:=cutN_le w w.length;omega,h2.trim,fun x hx=>h3 x (List.mem_of_mem_take hx),?_⟩
  refine Ev.x N.make_Poly rfl rfl ?_
  (repeat' (first|(refine CmpP.go (fun hc => ?_) (fun hc => ?_)<;>first|(exfalso;omega)|(conv=>whnf))|(refine OpP.add ?_ ?_;omega;conv=>whnf)|(refine LenP.go ?_;conv=>whnf)|(refine AKM.x ?_;conv=>whnf)|(refine CallP.go (h4) ?_;conv=>whnf)|(refine CallP.go (h5) ?_;conv=>whnf)))
  exact FinP.go rfl (by simp only[Clean,true_and];exact cl_eQs _)
theorem ev_mGrid (N:GrdGLib L) (q:Bool) (l:List Int) (hl:l.length<9223372036854775808) (hv : ∀ v∈l,InI v) : ∃ g:List Pt,GridW 840 14 g∧Ev L 255 [.sl q (l.map encInt)] (.sl false (g.map eP)):=by
 suffices h : ∃ v,Ev L 255 [.sl q (l.map encInt)] v ∧ ∃ g:List Pt,v = .sl false (g.map eP)∧GridW 840 14 g by
  obtain ⟨v,h1,g,rfl,h2⟩:=h
  exact ⟨g,h2,h1⟩
 have hO:=ev_r3_Of N.toRefGLib (-1) (by omega)
 refine Ev.xE N.make_Grid rfl rfl ?_
 (repeat' (first|(refine AKM.x ?_;conv=>whnf)|(refine CallP.go (hO) ?_;conv=>whnf)))
 refine CalS.tape N.toMakGLib (a:=0) (by omega) hv (by omega) rfl fun t0 z0 y1 y2 y3 => ?_
 (conv=>whnf)
 (repeat' (refine OpP.add ?_ ?_;omega;conv=>whnf))
 obtain ⟨n,hn,hn2⟩ : ∃ n:Nat,1+z0=n∧(1≤n∧n≤12):=⟨(1+z0).toNat,by omega,by omega⟩
 rw[hn]
 refine AKM.loop4 (fun _ i _ _=>n-i) (fun (g:List Pt) (i:Nat) (x:Rat) (t:Nat)=>GridI g i x∧i≤n∧t≤1+4*i) (fun _ i _ _=>[(6,.int .i64 ((n:Int)-i)),(5,.row 255005 0 9 0 i)]) (fun g _ x t=>[(255005,255005,.rw 9 (g.map eP)),(255004,255004,.bx (eQ x)),(255009,255009,.bx [.sl q (l.map encInt),.int .i64 t])]) [] [] [] 0 ((-1:Int):Rat) t0 (by first|exact (by (conv=>whnf);exact ⟨rfl,rfl,rfl⟩)|(rw[show ((n:Int)-(0:Nat))=n by omega];exact (by (conv=>whnf);exact ⟨rfl,rfl,rfl⟩))) ⟨GridI.start,by omega,by omega⟩ ?_
 intro g i x t ⟨p0,p1,p2⟩ ih
 have p3:=p0.len
 by_cases hi:i<n
 ·(repeat' (first|(refine CmpP.go (fun hc => ?_) (fun hc => ?_)<;>first|(exfalso;omega)|(conv=>whnf))|(refine AKM.x ?_;conv=>whnf)))
  refine CalS.tape N.toMakGLib (by omega) hv (by omega) rfl fun t1 z1 c1 c2 c3 => ?_
  obtain ⟨a,b,ha,hb,hR⟩:=ev_mRat N z1 (by unfold InI;omega)
  have hbx:=p0.bx (by omega)
  (conv=>whnf)
  (repeat' (refine CallP.go (hR) ?_;conv=>whnf))
  refine CalS.tape N.toMakGLib (by omega) hv (by omega) rfl fun t2 z2 d1 d2 d3 => ?_
  (conv=>whnf)
  (repeat' (refine OpP.add ?_ ?_;omega;conv=>whnf))
  refine CalS.tape N.toMakGLib (by omega) hv (by omega) rfl fun t3 z3 e1 e2 e3 => ?_
  have hF:=ev_r3_Frac N.toRefGLib (1+z2) (1+z3) (by omega) (by omega)
  (conv=>whnf)
  (repeat' (first|(refine OpP.add ?_ ?_;omega;conv=>whnf)|(refine RowP.e1 ?_;conv=>whnf)|(refine CallP.go (hF) ?_;conv=>whnf)))
  refine AppR.one (enc:=eP) ⟨x,Rat.divInt a b,Rat.divInt (1+z2) (1+z3)⟩ rfl p3.symm rfl (by omega) (by omega) ?_
  rw[show (g++[(⟨x,Rat.divInt a b,Rat.divInt (1+z2) (1+z3)⟩:Pt)]).length=i+1 by simp [p3]]
  (conv=>whnf)
  skip
  refine CalS.tape N.toMakGLib (by omega) hv (by omega) rfl fun t4 z4 f1 f2 f3 => ?_
  have hF2:=ev_r3_Frac N.toRefGLib (1+z4) 12 (by omega) (by omega)
  have hst:=p0.step (by omega) ha hb (c:=1+z2) (d:=1+z3) (s:=1+z4) (by omega) (by omega) (by omega)
  have hAd:=ev_add3 N.toRefGLib hbx (y:=Rat.divInt (1+z4) 12) (l:=20) (Bt.of_wh (m:=4) (M:=12) (k:=6) (by omega) (by decide) (wh_frac (T:=1) (by omega) (by decide) (by show (1*(1+z4)).natAbs≤64;omega)) |>.le (by omega)) (by omega) (by omega)
  generalize x+Rat.divInt (1+z4) 12=x2 at *
  (conv=>whnf)
  (repeat' (first|(refine OpP.add ?_ ?_;omega;conv=>whnf)|(refine OpP.sub ?_ ?_;omega;conv=>whnf)|(refine CallP.go (hF2) ?_;conv=>whnf)|(refine CallP.go (hAd) ?_;conv=>whnf)))
  rw[show (n:Int)-(i:Int)-1=(n:Int)-((i+1:Nat):Int) by omega]
  exact AKM.back [(255005,255032)] (by (conv=>whnf);exact ⟨rfl,rfl,rfl⟩) (ih (g++[⟨x,Rat.divInt a b,Rat.divInt (1+z2) (1+z3)⟩]) (i+1) x2 t4 (by omega) ⟨hst,by omega,by omega⟩)
 ·have ei:i=n:=by omega
  clear ih
  (repeat' (first|(refine CmpP.go (fun hc => ?_) (fun hc => ?_)<;>first|(exfalso;omega)|(conv=>whnf))|(refine AKM.x ?_;conv=>whnf)))
  refine ⟨.sl false (g.map eP),?_,g,rfl,p0.fin (by omega)⟩
  (conv=>whnf)
  refine SnR.all (enc:=eP) (fun _=>rfl) rfl p3.symm ?_
  (conv=>whnf)
  exact FinP.go rfl (by simp only[Clean,true_and];exact cl_ePs g)
end Go.Eng

namespace Go.Eng
open F
attribute [local irreducible] AKM CmpP Req OpP UnP ConvP RdP LdR StR MkR LenP AppR AppN CpyR RowP SnR Bds SlS CallP CalP FinP pw LdM GetM SetM PutM MkM AppM SnM FlP CallR
set_option maxHeartbeats 8000000
variable {L:Lib}
theorem getD_bt {l:List Rat} {k:Nat} (h:Bs k l) (i:Nat):Bt k (l.getD i 0):=by
 rw[List.getD_eq_getElem?_getD]
 cases e:l[i]? with
 | none=>exact Bt.zero k
 | some x=>exact h.at e
theorem ev_r5_At (N:TrGLib L) (q:Bool) (l:List Rat) (i k:Nat) (hl:Bs k l) (hk:k<2199023255552) (hn:l.length≤1000000):Ev L 192 [.sl q (l.map eQ),.int .i64 (i:Int)] (.agg (eQ (l.getD i 0))):=by
 have hO:=ev_r3_Of N.toRefGLib 0 (by omega)
 refine Ev.x N.ref05_At rfl rfl ?_
 by_cases hi:i<l.length
 ·obtain ⟨x,hx⟩ : ∃ x,l[i]? = some x:=⟨_,zE hi⟩
  have hx':l[(i:Int).toNat]? = some x:=hx
  have hT:=ev_trim3 N.toRefGLib (hl.at hx) hk
  rw[gD_of hx]
  (repeat' (first|(refine CmpP.go (fun hc => ?_) (fun hc => ?_)<;>first|(exfalso;omega)|(conv=>whnf))|(refine LenP.go ?_;conv=>whnf)|(refine RdP.at (by assumption) ?_ rfl ?_;omega;conv=>whnf)|(refine AKM.x ?_;conv=>whnf)|(refine CallP.go (hT) ?_;conv=>whnf)))
  exact FinP.go rfl (cl_eQ _)
 ·rw[gD_ge (l:=l) (by omega)]
  (repeat' (first|(refine CmpP.go (fun hc => ?_) (fun hc => ?_)<;>first|(exfalso;omega)|(conv=>whnf))|(refine LenP.go ?_;conv=>whnf)|(refine AKM.x ?_;conv=>whnf)|(refine CallP.go (hO) ?_;conv=>whnf)))
  exact FinP.go rfl (cl_eQ _)
end Go.Eng

namespace Go.Eng
open F
attribute [local irreducible] AKM CmpP Req OpP UnP ConvP RdP LdR StR MkR LenP AppR AppN CpyR RowP SnR Bds SlS CallP CalP FinP pw LdM GetM SetM PutM MkM AppM SnM FlP CallR
set_option maxHeartbeats 8000000
variable {L:Lib}
theorem sgn3 (z:Int):sgn z = -1∧z<0∨sgn z=0∧z=0∨sgn z=1∧0<z:=by
 unfold sgn
 split
 ·exact Or.inl ⟨rfl,by omega⟩
 ·split
  ·exact Or.inr (Or.inr ⟨rfl,by omega⟩)
  ·exact Or.inr (Or.inl ⟨rfl,by omega⟩)
theorem cmp_sgn {a b:Nat} {z:Int} (h:z=(a:Int)-b):cmpS a b=sgn z:=by
 unfold cmpS sgn
 subst h
 repeat' split
 all_goals omega
theorem ev_integer_Compare (N:StGLib L) (n1 n2 q1 q2:Bool) (a b:List Nat) (ha:Sm 549755813888 a) (hb:Sm 549755813888 b):Ev L 197 [.agg (rZ q1 n1 a),.agg (rZ q2 n2 b)] (.int .i64 (sgn (zv n1 a-zv n2 b))):=by
 have h1:=fun q=>ev_integer_Sign N.toRatGLib n1 q a ha
 have h2:=fun q=>ev_integer_Sign N.toRatGLib n2 q b hb
 have h3:=fun q q'=>ev_nat_Compare N.toNatGLib a b q q' ha.1 hb.1 (by have:=ha.2;omega) (by have:=hb.2;omega)
 have h4:=fun q q'=>ev_nat_Compare N.toNatGLib b a q q' hb.1 ha.1 (by have:=hb.2;omega) (by have:=ha.2;omega)
 have za:=zv_abs n1 a
 have zb:=zv_abs n2 b
 generalize zv n1 a=x at *
 generalize zv n2 b=y at *
 rcases sgn3 x with ⟨e1,g1⟩|⟨e1,g1⟩|⟨e1,g1⟩<;>rcases sgn3 y with ⟨e2,g2⟩|⟨e2,g2⟩|⟨e2,g2⟩
 all_goals
  rw[e1]at h1
  rw[e2]at h2
  refine Ev.x N.integer_Compare rfl rfl ?_
  (repeat' (first|(refine CmpP.go (fun hc => ?_) (fun hc => ?_)<;>first|(exfalso;omega)|(conv=>whnf))|(refine AKM.x ?_;conv=>whnf)|(refine CallP.go (h1 _) ?_;conv=>whnf)|(refine CallP.go (h2 _) ?_;conv=>whnf)|(refine CallP.go (h3 _ _) ?_;conv=>whnf)|(refine CallP.go (h4 _ _) ?_;conv=>whnf)))
  first
   | exact FinP.i (sgn_neg (by omega))
   | exact FinP.i (sgn_pos (by omega))
   | exact FinP.i (cmp_sgn (by omega))
theorem ev_rational_Compare (N:StGLib L) (k:Nat) (hk:1≤k∧k≤68719476736) (n1 n2:Bool) (m1 d1 m2 d2:List Nat) (hm1:Sm k m1) (hd1:Sm k d1) (hm2:Sm k m2) (hd2:Sm k d2) :
  Ev L 198 [.agg (rQ false false n1 m1 d1),.agg (rQ false false n2 m2 d2)] (.int .i64 (sgn (qv n1 m1 d1-qv n2 m2 d2).num)):=by
 obtain ⟨a1,a2,a3,w1,hr1,s1,s2,s3,s4,s5⟩:=ev_read N.toRatGLib n1 m1 d1 k (by omega) hm1 hd1
 obtain ⟨b1,b2,b3,w2,hr2,t1,t2,t3,t4,t5⟩:=ev_read N.toRatGLib n2 m2 d2 k (by omega) hm2 hd2
 rw[s5,t5,←mk_cmp s3 t3]
 by_cases hw:w1=true∧w2=true
 ·obtain ⟨rfl,rfl⟩:=hw
  have hC:=fun q q'=>ev_integer_Compare N a1 b1 q q' a2 b2 (s1.le (by omega)) (t1.le (by omega))
  rw[s4 rfl,t4 rfl]
  rw[show zv a1 a2*((1:Nat):Int)-zv b1 b2*((1:Nat):Int)=zv a1 a2-zv b1 b2 by omega]
  refine Ev.x N.rational_Compare rfl rfl ?_
  (repeat' (first|(refine FlP.n4 ?_;conv=>whnf)|(refine AKM.x ?_;conv=>whnf)|(refine CallP.go (hr1) ?_;conv=>whnf)|(refine CallP.go (hr2) ?_;conv=>whnf)|(refine CallP.go (hC _ _) ?_;conv=>whnf)))
  exact FinP.i rfl
 ·have hM1:=fun q q'=>ev_integer_Mul N.toRatGLib a1 false q q' a2 b3 s1.1 t2.1 (by have:=s1.2;have:=t2.2;omega)
  have hM2:=fun q q'=>ev_integer_Mul N.toRatGLib b1 false q q' b2 a3 t1.1 s2.1 (by have:=t1.2;have:=s2.2;omega)
  have hna:=ev_natural N.toRatGLib a3
  have hnb:=ev_natural N.toRatGLib b3
  have g1:Sm (k+k) (dg (zv a1 a2*zv false b3).natAbs):=sm_zmul s1 t2
  have g2:Sm (k+k) (dg (zv b1 b2*zv false a3).natAbs):=sm_zmul t1 s2
  have hC:=fun q q'=>ev_integer_Compare N (decide (zv a1 a2*zv false b3<0)) (decide (zv b1 b2*zv false a3<0)) q q' _ _ (g1.le (by omega)) (g2.le (by omega))
  rw[zv_of,zv_of]at hC
  rw[←zv_F b3,←zv_F a3]
  generalize zv a1 a2*zv false b3=x at *
  generalize zv b1 b2*zv false a3=y at *
  refine Ev.x N.rational_Compare rfl rfl ?_
  cases w1<;>cases w2
  ·(repeat' (first|(refine FlP.n4 ?_;conv=>whnf)|(refine FlP.n2 ?_;conv=>whnf)|(refine AKM.x ?_;conv=>whnf)|(refine CallP.go (hr1) ?_;conv=>whnf)|(refine CallP.go (hr2) ?_;conv=>whnf)|(refine CallP.go (hna) ?_;conv=>whnf)|(refine CallP.go (hnb) ?_;conv=>whnf)|(refine CallP.go (hM1 _ _) ?_;conv=>whnf)|(refine CallP.go (hM2 _ _) ?_;conv=>whnf)|(refine CallP.go (hC _ _) ?_;conv=>whnf)))
   exact FinP.i rfl
  ·(repeat' (first|(refine FlP.n4 ?_;conv=>whnf)|(refine FlP.n2 ?_;conv=>whnf)|(refine AKM.x ?_;conv=>whnf)|(refine CallP.go (hr1) ?_;conv=>whnf)|(refine CallP.go (hr2) ?_;conv=>whnf)|(refine CallP.go (hna) ?_;conv=>whnf)|(refine CallP.go (hnb) ?_;conv=>whnf)|(refine CallP.go (hM1 _ _) ?_;conv=>whnf)|(refine CallP.go (hM2 _ _) ?_;conv=>whnf)|(refine CallP.go (hC _ _) ?_;conv=>whnf)))
   exact FinP.i rfl
  ·(repeat' (first|(refine FlP.n4 ?_;conv=>whnf)|(refine FlP.n2 ?_;conv=>whnf)|(refine AKM.x ?_;conv=>whnf)|(refine CallP.go (hr1) ?_;conv=>whnf)|(refine CallP.go (hr2) ?_;conv=>whnf)|(refine CallP.go (hna) ?_;conv=>whnf)|(refine CallP.go (hnb) ?_;conv=>whnf)|(refine CallP.go (hM1 _ _) ?_;conv=>whnf)|(refine CallP.go (hM2 _ _) ?_;conv=>whnf)|(refine CallP.go (hC _ _) ?_;conv=>whnf)))
   exact FinP.i rfl
  ·exact absurd ⟨rfl,rfl⟩ hw
theorem ev_cmpQ (N:StGLib L) {x y:Rat} {k l:Nat} (hx:Bt k x) (hy:Bt l y) (hk:k<2199023255552) (hl:l<2199023255552):Ev L 198 [.agg (eQ x),.agg (eQ y)] (.int .i64 (sgn (x-y).num)):=by
 have:=ev_rational_Compare N 68719476736 (by omega) (decide (x.num<0)) (decide (y.num<0)) _ _ _ _ (hx.sm hk).1 (hx.sm hk).2 (hy.sm hl).1 (hy.sm hl).2
 rw[qv_of,qv_of]at this
 exact this
end Go.Eng

namespace Go.Eng
open F
attribute [local irreducible] AKM CmpP Req OpP UnP ConvP RdP LdR StR MkR LenP AppR AppN CpyR RowP SnR Bds SlS CallP CalP FinP pw LdM GetM SetM PutM MkM AppM SnM FlP CallR
set_option maxHeartbeats 4000000
variable {L:Lib}
end Go.Eng

namespace Go.Eng
theorem LdM.st {R:List (Option (Nat × List (List AV)))} {i e z:Nat} {es:List (List AV)} {K:Option (Nat × List (List AV))→Prop} (he:e=i) (hi:i<R.length) (h:K (some (z,es))):LdM (R.set i (some (z,es))) e K:=by
 subst he
 exact ⟨_,by rw[List.getElem?_set,if_pos rfl,if_pos hi],h⟩
theorem GetM.st {R:List (Option (Nat × List (List AV)))} {i e z:Nat} {es:List (List AV)} {K:Nat→List (List AV)→Prop} (he:e=i) (hi:i<R.length) (h:K z es):GetM (R.set i (some (z,es))) e K:=by
 subst he
 exact ⟨z,es,by rw[List.getElem?_set,if_pos rfl,if_pos hi],h⟩
theorem PutM.st {R:List (Option (Nat × List (List AV)))} {i e z:Nat} {es es':List (List AV)} {K:List (Option (Nat × List (List AV)))→Prop} (he:e=i) (hl:es'.length=es.length) (h:K (R.set i (some (z,es')))):PutM (R.set i (some (z,es))) e z es es' K:=by
 subst he
 exact ⟨hl,by rw[List.set_set];exact h⟩
theorem SetM.fz {R:List (Option (Nat × List (List AV)))} {i e z:Nat} {es:List (List AV)} {K:List (Option (Nat × List (List AV)))→Prop} (he:e=i) (hi:i<R.length) (h:K (R.set i (some (z,es)))):SetM R e z es K:=by
 subst he
 exact ⟨hi,h⟩
end Go.Eng

namespace Go.Eng
open F
attribute [local irreducible] AKM CmpP Req OpP UnP ConvP RdP LdR StR MkR LenP AppR AppN CpyR RowP SnR Bds SlS CallP CalP FinP pw LdM GetM SetM PutM MkM AppM SnM FlP CallR
set_option maxHeartbeats 16000000
variable {L:Lib}
def mz (Q:List (List Rat)) (n i:Nat):List (Option (Nat × List (List AV))):=fz none (mxR 3 eQ (Q.take i)) n
theorem mz_len {Q:List (List Rat)} {n i:Nat} (hi:i≤n):(mz Q n i).length=n:=by
 refine fz_len ?_
 simp only[mxR,List.length_map,List.length_take];omega
theorem mz_zero (Q:List (List Rat)) (n:Nat):mz Q n 0=List.replicate n none:=by simp [mz,fz]
theorem mz_set {Q:List (List Rat)} {n i:Nat} {row:List Rat} (h:Q[i]? = some row) (hi:i<n):(mz Q n i).set i (some (3,row.map eQ))=mz Q n (i+1):=by
 have h1:=(zS h).1
 have hl:(mxR 3 eQ (Q.take i)).length=i:=by simp only[mxR,List.length_map,List.length_take];omega
 have:=fz_set (z:=none) (l:=mxR 3 eQ (Q.take i)) (m:=n) (x:=some (3,row.map eQ)) (by omega)
 rw[hl]at this
 rw[mz,this,mz,take_snocA h]
 simp [mxR]
theorem mz_full {Q:List (List Rat)} {n:Nat} (h:Q.length=n):mz Q n n=mxR 3 eQ Q:=by
 rw[mz,List.take_of_length_le (by omega)]
 exact fz_full (by simp [mxR,h])
end Go.Eng

namespace Go.Eng
variable {L:Lib}
theorem AKM.unview {kk:List It} {tm:Tm} {M:Mem} {Q:Tm→Mem→Prop} {k s:Nat} {rows:List (Option (Nat × List (List AV)))} {w:List Nat} (rows':List (Option (Nat × List (List AV)))) (e:mget M k=some (s,.vw w rows)) (hl:rows'.length=w.length)
  (hw : ∀ (i t:Nat),w[i]? = some t → ∃ r,rows[t]? = some r∧rows'[i]? = some r) (hi : ∀ (i i' t:Nat),w[i]? = some t→w[i']? = some t→i=i') (hct:chT k tm=false) (hcm:chM k M=false)
  (h:AKM L kk tm ((k,s,.mx rows')::M) Q):AKM L kk tm M Q:=by
 intro σ st hr
 obtain ⟨σ',hr'⟩:=hr.unview e hl hw hi hct hcm
 exact h σ' st hr'
theorem AKM.swap {kk:List It} {tm:Tm} {M:Mem} {Q:Tm→Mem→Prop} {k s i j:Nat} {rows:List (Option (Nat × List (List AV)))} {a b:Option (Nat × List (List AV))} (e:mget M k=some (s,.vw (((List.range rows.length).set i j).set j i) rows)) (ha:rows[i]? = some a) (hb:rows[j]? = some b) (hct:chT k tm=false) (hcm:chM k M=false)
  (h:AKM L kk tm ((k,s,.mx ((rows.set i b).set j a))::M) Q):AKM L kk tm M Q:=by
 have hi:=(zS ha).1
 have hj:=(zS hb).1
 have hwi : ∀ p,p<rows.length→(((List.range rows.length).set i j).set j i)[p]? = some (if p=j then i else if p=i then j else p):=fun p hp=>by
  rw[List.getElem?_set,List.getElem?_set,List.length_set,List.length_range]
  by_cases h1:j=p
  ·subst h1;simp [hp]
  ·rw[if_neg h1,if_neg (Ne.symm h1)]
   by_cases h2:i=p
   ·subst h2;simp [hp]
   ·rw[if_neg h2,if_neg (Ne.symm h2),List.getElem?_range hp]
 have hwl : ∀ p t,(((List.range rows.length).set i j).set j i)[p]? = some t→p<rows.length:=fun p t hp=>by
  have:=(zS hp).1
  simpa using this
 refine AKM.unview ((rows.set i b).set j a) e (by simp) (fun p t hp => ?_) (fun p p' t hp hp' => ?_) hct hcm h
 ·have hpl:=hwl p t hp
  rw[hwi p hpl]at hp
  obtain rfl:=Option.some.inj hp
  rw[List.getElem?_set,List.getElem?_set,List.length_set]
  by_cases h1:p=j
  ·subst h1
   exact ⟨a,by rw[if_pos rfl];exact ha,by rw[if_pos rfl,if_pos hpl]⟩
  ·rw[if_neg h1,if_neg (Ne.symm h1)]
   by_cases h2:p=i
   ·subst h2
    exact ⟨b,by rw[if_pos rfl];exact hb,by rw[if_pos rfl,if_pos hpl]⟩
   ·rw[if_neg h2,if_neg (Ne.symm h2)]
    exact ⟨_,zE hpl,zE hpl⟩
 ·have hpl:=hwl p t hp
  have hpl':=hwl p' t hp'
  rw[hwi p hpl]at hp
  rw[hwi p' hpl']at hp'
  have:=Option.some.inj (hp.trans hp'.symm)
  split at this<;>split at this<;>(try split at this)<;>(try split at this)<;>omega
end Go.Eng

namespace Go.Eng
open F
attribute [local irreducible] AKM CmpP Req OpP UnP ConvP RdP LdR StR MkR LenP AppR AppN CpyR RowP SnR Bds SlS CallP CalP FinP pw LdM GetM SetM PutM MkM AppM SnM FlP CallR
set_option maxHeartbeats 16000000
variable {L:Lib}
abbrev eMq (q:Bool) (m:List (List Rat)):List (List AV):=m.map fun r=>[AV.sl q (r.map eQ)]
theorem cl_matT (m:List (List Rat)) (e:Int):Clean (.tup [.sl false (eM m),.int .i64 e]):=by
 simp only[Clean,CleanL,and_true,true_and]
 exact cl_eM m
theorem ev_lValid (N:MatGLib L) (q q':Bool) (a:List (List Rat)) (n w:Nat) (hn:a.length=n) (hw : ∀ r∈a,r.length=w) (h1:1≤n∧n≤52) (h2:1≤w∧w≤52):Ev L 229 [.sl q (eMq q' a)] (.bool true):=by
 obtain ⟨r0,hr0⟩ : ∃ r,a[0]? = some r:=⟨_,zE (by omega)⟩
 have hr0':a[(0:Int).toNat]? = some r0:=hr0
 have hl0:=hw r0 (zM hr0)
 refine Ev.x N.linear_Valid rfl rfl ?_
 (repeat' (first|(refine CmpP.go (fun hc => ?_) (fun hc => ?_)<;>first|(exfalso;omega)|(conv=>whnf))|(refine LenP.go ?_;conv=>whnf)|(refine RdP.at (by assumption) ?_ rfl ?_;omega;conv=>whnf)|(refine AKM.x ?_;conv=>whnf)))
 refine AKM.loop1 (fun i=>n-i) (fun (i:Nat)=>i≤n) (fun i=>[(20,.int .i64 i)]) (fun _=>[]) [] [] 0 (by (conv=>whnf);exact ⟨rfl,rfl,rfl⟩) (by omega) ?_
 intro i p1 ih
 by_cases hi:i<n
 ·obtain ⟨r,hr⟩ : ∃ r,a[i]? = some r:=⟨_,zE (by omega)⟩
  have hr':a[(i:Int).toNat]? = some r:=hr
  have hl:=hw r (zM hr)
  (repeat' (first|(refine CmpP.go (fun hc => ?_) (fun hc => ?_)<;>first|(exfalso;omega)|(conv=>whnf))|(refine OpP.add ?_ ?_;omega;conv=>whnf)|(refine LenP.go ?_;conv=>whnf)|(refine RdP.at (by assumption) ?_ rfl ?_;omega;conv=>whnf)|(refine AKM.x ?_;conv=>whnf)))
  exact AKM.back [] (by (conv=>whnf);exact ⟨rfl,rfl,rfl⟩) (ih (i+1) (by omega) (by omega))
 ·obtain rfl:i=n:=by omega
  clear ih
  (repeat' (first|(refine CmpP.go (fun hc => ?_) (fun hc => ?_)<;>first|(exfalso;omega)|(conv=>whnf))|(refine AKM.x ?_;conv=>whnf)))
  exact FinP.b rfl
def encP (p:Bool × List Rat):List AV:=[.sl p.1 (p.2.map eQ)]
def flatP (P:List (Bool × List Rat)) (i:Nat):List Rat:=((P.take i).map Prod.snd).flatten
theorem flatP_succ {P:List (Bool × List Rat)} {i:Nat} {p:Bool × List Rat} (h:P[i]? = some p):flatP P (i+1)=flatP P i++p.2:=by
 simp only[flatP,List.take_add_one,h,Option.toList_some,List.map_append,List.map_cons,List.map_nil,List.flatten_append,List.flatten_cons,List.flatten_nil,List.append_nil]
theorem ev_ConcatP (N:MatGLib L) (q:Bool) (P:List (Bool × List Rat)) (n:Nat) (hn:P.length=n) (hn2:n≤100) (hB : ∀ i,(flatP P i).length≤2000) (h0:0<(flatP P n).length):Ev L 228 [.sl q (P.map encP)] (.sl false ((flatP P n).map eQ)):=by
 refine Ev.x N.slices_Concat_api_Rat_api_Rat rfl rfl ?_
 (repeat' (first|(refine LenP.go ?_;conv=>whnf)|(refine AKM.x ?_;conv=>whnf)))
 refine AKM.loop1 (fun i=>n-i) (fun (i:Nat)=>i≤n) (fun i=>[(11,.int .i64 i),(3,.int .i64 (flatP P i).length)]) (fun _=>[]) [] [] 0 (by (conv=>whnf);exact ⟨rfl,rfl,rfl⟩) (by omega) ?_
 intro i p1 ih
 by_cases hi:i<n
 ·obtain ⟨p,hp⟩ : ∃ p,P[i]? = some p:=⟨_,zE (by omega)⟩
  have hp':P[(i:Int).toNat]? = some p:=hp
  have hs:=flatP_succ hp
  have hb:=hB i
  have hb1:=hB (i+1)
  have hl:(flatP P (i+1)).length=(flatP P i).length+p.2.length:=by rw[hs,List.length_append]
  (repeat' (first|(refine CmpP.go (fun hc => ?_) (fun hc => ?_)<;>first|(exfalso;omega)|(conv=>whnf))|(refine OpP.add ?_ ?_;omega;conv=>whnf)|(refine LenP.go ?_;conv=>whnf)|(refine RdP.at (by assumption) ?_ rfl ?_;omega;conv=>whnf)|(refine AKM.x ?_;conv=>whnf)))
  rw[show ((flatP P i).length:Int)+(p.2.length:Int)=((flatP P (i+1)).length:Nat) by rw[hl];omega]
  exact AKM.back [] (by (conv=>whnf);exact ⟨rfl,rfl,rfl⟩) (ih (i+1) (by omega) (by omega))
 ·obtain rfl:i=n:=by omega
  clear ih
  have hb:=hB i
  (repeat' (first|(refine CmpP.go (fun hc => ?_) (fun hc => ?_)<;>first|(exfalso;omega)|(conv=>whnf))|(refine AKM.x ?_;conv=>whnf)))
  refine CalP.walk 1000 N.slices_Grow_api_Rat_api_Rat rfl rfl ?_
  (repeat' (first|(refine CmpP.go (fun hc => ?_) (fun hc => ?_)<;>first|(exfalso;omega)|(conv=>whnf))|(refine Req.go ?_ ?_;omega;conv=>whnf)|(refine OpP.sub ?_ ?_;omega;conv=>whnf)|(refine AKM.x ?_;conv=>whnf)))
  refine Req.go ⟨by omega,by simp only[roomMax];omega,by omega⟩ ?_
  (conv=>whnf)
  refine Bds.ns ⟨by omega,by omega⟩ ?_
  (conv=>whnf)
  skip
  refine ⟨rfl,_,rfl,?_⟩
  (conv=>whnf)
  (repeat' (refine LenP.go ?_;conv=>whnf))
  refine AKM.loop1 (fun j=>i-j) (fun (j:Nat)=>j≤i) (fun j=>[(27,.int .i64 j),(6,.row 227022 0 3 0 (flatP P j).length)]) (fun j=>[(227022,227022,.rw 3 ((flatP P j).map eQ))]) [] [] 0 (by (conv=>whnf);exact ⟨rfl,rfl,rfl⟩) (by omega) ?_
  intro j p2 jh
  by_cases hj:j<i
  ·obtain ⟨p,hp⟩ : ∃ p,P[j]? = some p:=⟨_,zE (by omega)⟩
   have hp':P[(j:Int).toNat]? = some p:=hp
   have hs:=flatP_succ hp
   have hb:=hB j
   have hb1:=hB (j+1)
   have hl:(flatP P (j+1)).length=(flatP P j).length+p.2.length:=by rw[hs,List.length_append]
   (repeat' (first|(refine CmpP.go (fun hc => ?_) (fun hc => ?_)<;>first|(exfalso;omega)|(conv=>whnf))|(refine RdP.at (by assumption) ?_ rfl ?_;omega;conv=>whnf)|(refine AKM.x ?_;conv=>whnf)))
   refine AppR.many rfl (fun _=>rfl) (by omega) (by omega) ?_
   rw[←hs]
   (conv=>whnf)
   (repeat' (refine OpP.add ?_ ?_;omega;conv=>whnf))
   exact AKM.back [(227022,33)] (by (conv=>whnf);exact ⟨rfl,rfl,rfl⟩) (jh (j+1) (by omega) (by omega))
  ·obtain rfl:j=i:=by omega
   clear jh
   (repeat' (first|(refine CmpP.go (fun hc => ?_) (fun hc => ?_)<;>first|(exfalso;omega)|(conv=>whnf))|(refine SnR.all (fun _=>rfl) rfl ?_ ?_;(first|rfl|simp);conv=>whnf)|(refine AKM.x ?_;conv=>whnf)))
   exact FinP.go rfl (by simp only[Clean,true_and];exact cl_eQs _)
theorem ev_Concat (N:MatGLib L) (q q1 q2:Bool) (a b:List Rat) (ha:a.length≤1000) (hb:b.length≤1000) (h0:0<a.length):Ev L 228 [.sl q [[.sl q1 (a.map eQ)],[.sl q2 (b.map eQ)]]] (.sl false ((a++b).map eQ)):=by
 have:=ev_ConcatP N q [(q1,a),(q2,b)] 2 rfl (by omega) (fun i=>by
  rcases i with _|_|_|i<;>simp [flatP]<;>omega) (by simp [flatP];omega)
 simpa [flatP,encP] using this
end Go.Eng
