/-
  Natural numbers (layer 1): greatest common divisors.
-/
import Derived.Test.YtoibhhbngpdcaaaB9
import Derived.Test.YtoibhhbngpdcaaaB8
import Derived.Test.YtoibhhbngpdcaaaB7
import Derived.Test.YtoibhhbngpdcaaaB4
import Derived.Test.YtoibhhbngpdcaaaB3
import Derived.Test.YtoibhhbngpdcaaaB1
import Derived.ProofKit
import Derived.OpenShut
import Derived.ChangeOld
import Derived.WalkKit
import Derived.WideShapes
import Derived.ChangeArms
set_option linter.unusedSimpArgs false
set_option linter.unusedVariables false
set_option linter.unnecessarySimpa false
namespace Go.Eng
open F
attribute [local irreducible] AKM CmpP Req OpP UnP ConvP RdP LdR StR MkR LenP AppR AppN CpyR RowP SnR Bds SlS CallP CalP FinP pw LdM GetM SetM PutM MkM AppM SnM FlP CallR
set_option maxHeartbeats 4000000
variable {L:Lib}
theorem OpP.shr32 {k':IntKind} {a:Int} {K:AV→Prop} (hk:K (.int .i64 (a/4294967296))):OpP .shr .i64 a k' 32 K:=by
 refine OpP.shr (by omega) ?_
 have:pw 32=4294967296:=by decide +kernel
 rw[this];exact hk
theorem ConvP.i32 {t:Int} {K:Int→Prop} (hk:K (cmD t:Int)):ConvP .u32 t K:=by
 unfold ConvP
 rw[IntKind.wrap_u32,←cmD_eq];exact hk
section
variable {k':IntKind} {a b:Nat} {K:AV→Prop}
theorem OpP.shlm {i:Nat} (hi:i<2) (ha:a<4294967296) (hk:K (.int .u64 ((a*4294967296^i:Nat):Int))):OpP .shl .u64 (a:Int) k' (32*(i:Int)) K:=by
 rcases i with _|_|i
 ·exact OpP.sh8 (s:=0) (by omega) (by omega) hk
 ·exact OpP.sh8 (s:=32) (by omega) (by omega) hk
 ·omega
end
theorem int_mul_bd {x y M N:Int} (hx : -M≤x∧x≤M) (hy : -N≤y∧y≤N) : -(M*N)≤x*y∧x*y≤M*N:=by
 have h1:x.natAbs≤M.natAbs:=by omega
 have h2:y.natAbs≤N.natAbs:=by omega
 have h3:=Nat.mul_le_mul h1 h2
 rw[←Int.natAbs_mul,←Int.natAbs_mul]at h3
 have h4:0≤M*N:=Int.mul_nonneg (by omega) (by omega)
 omega
theorem ev_nat_DivMod (N:NatGLib L) (a b:List Nat) (q1 q2:Bool) (hA:Dig a) (hB:Dig b) (la:a.length≤549755813888) (lb:b.length≤549755813888) (h0:val b≠0) :
  Ev L 75 [.sl q1 (a.map e32),.sl q2 (b.map e32)] (.tup [.sl false ((dg (val a/val b)).map e32),.sl false ((dg (val a%val b)).map e32),.int .i64 0]):=by
 have l1:=dg_len_val hA
 have l2:=dg_len_val hB
 have hp:=dg_len_pos h0
 refine Ev.x N.nat_DivMod rfl rfl ?_
 (repeat' (first|(refine CmpP.go (fun hc => ?_) (fun hc => ?_)<;>first|(exfalso;omega)|(conv=>whnf))|(refine LenP.go ?_;conv=>whnf)|(refine AKM.x ?_;conv=>whnf)|(refine CalP.ro (ro_cut N a _ hA (by omega)) ?_;conv=>whnf)|(refine CalP.ro (ro_cut N b _ hB (by omega)) ?_;conv=>whnf)|(refine CallP.go (ev_nat_divide N _ _ _ _ h0 (by omega) (by omega)) ?_;conv=>whnf)))
 refine FinP.go rfl ?_
 simp only[Clean,CleanL,and_true,true_and]
 exact ⟨cl_dig _,cl_dig _⟩
theorem ev_nat_small (N:NatGLib L) (V:Nat) (q:Bool) (hl:(dg V).length≤2):Ev L 76 [.sl q ((dg V).map e32)] (.int .u64 (V:Int)):=by
 have hV:=dg_len_le.1 hl
 have hD:=dig_dg V
 have hv:=val_dg V
 refine Ev.x N.nat_small rfl rfl ?_
 generalize dg V=l at *
 (repeat' (first|(refine LenP.go ?_;conv=>whnf)|(refine AKM.x ?_;conv=>whnf)))
 refine AKM.loop2 (fun i _=>l.length-i) (fun (i:Nat) (a:Nat)=>i≤l.length∧a=val (l.take i)) (fun i a=>[(3,.int .u64 (a:Int)),(8,.int .i64 i)]) (fun _ _=>[]) [] [] 0 0 (by (conv=>whnf);exact ⟨rfl,rfl,rfl⟩) ⟨by omega,rfl⟩ ?_
 intro i a ⟨p1,p2⟩ ih
 by_cases hi:i<l.length
 ·obtain ⟨d,hd⟩ : ∃ d,l[i]? = some d:=⟨_,List.getElem?_eq_getElem hi⟩
  have hdb:=hD.at hd
  have h1:=val_take_succ hd
  have h2:=val_lt (hD.take i)
  have h3:=val_lt (hD.take (i+1))
  rw[List.length_take,Nat.min_eq_left (by omega)]at h2 h3
  have h4:4294967296^(i+1)≤4294967296^2:=Nat.pow_le_pow_right (by omega) (by omega)
  (repeat' (first|(refine CmpP.go (fun hc => ?_) (fun hc => ?_)<;>first|(exfalso;omega)|(conv=>whnf))|(refine OpP.mul ?_ ?_;omega;conv=>whnf)|(refine ConvP.u64 ?_ ?_;omega;conv=>whnf)|(refine RdP.at (by assumption) ?_ rfl ?_;omega;conv=>whnf)|(refine AKM.x ?_;conv=>whnf)))
  refine OpP.shlm (by omega) hdb ?_
  (conv=>whnf)
  rw[Nat.mul_comm d]
  refine OpP.nor8r (32*i) (by rw[Nat.pow_mul];exact Nat.mul_mod_right _ _) (by rw[Nat.pow_mul,p2];exact h2) (by omega) ?_
  (conv=>whnf)
  (repeat' (refine OpP.add ?_ ?_;omega;conv=>whnf))
  exact AKM.back [] (by (conv=>whnf);exact ⟨rfl,rfl,rfl⟩) (ih (i+1) _ (by omega) ⟨by omega,by rw[h1,p2]⟩)
 ·obtain rfl:i=l.length:=by omega
  clear ih
  (repeat' (first|(refine CmpP.go (fun hc => ?_) (fun hc => ?_)<;>first|(exfalso;omega)|(conv=>whnf))|(refine AKM.x ?_;conv=>whnf)))
  rw[val_take_all (Nat.le_refl _)]at p2
  exact FinP.i (by omega)
theorem CalP.fix {f:Nat} {vs:List AV} {tm:Tm} {M:Mem} {K:AV→Mem→Prop} {v:AV} (h:CalP L f vs tm M (fun r M'=>r=v∧M'=M)) (hk:K v M):CalP L f vs tm M K:=by
 unfold CalP at h ⊢
 intro σ own hs
 obtain ⟨r,own',σ',M',h1,h2,h3,rfl,rfl⟩:=h σ own hs
 exact ⟨_,own',σ',_,h1,h2,h3,hk⟩
theorem ev_nat_leading (N:NatGLib L) (a:List Nat) (q:Bool) (n s:Nat) (hD:Dig a) (hn:3≤n) (hl:a.length≤n) (hn2:n≤549755813888) (hs:s≤31) (hlt:val a*2^s<4294967296^n) :
  Ev L 78 [.sl q (a.map e32),.int .i64 (n:Int),.int .u64 (s:Int)] (.int .i64 ((val a/leadK n s:Nat):Int)):=by
 have b1:=getD_lt hD (n-1)
 have b2:=getD_lt hD (n-2)
 have b3:=getD_lt hD (n-3)
 have hfit:=lead_fits hD hn hl rfl rfl hlt
 have heq:=lead_eq (s:=s) hD hn hl hs rfl rfl rfl
 obtain ⟨f1,f2,f3,f4⟩:=sh_facts (s:=s) b3 (by omega)
 refine Ev.x N.nat_leading rfl rfl ?_
 (repeat' (first|(refine Req.go ?_ ?_;omega;conv=>whnf)|(refine OpP.sub ?_ ?_;omega;conv=>whnf)|(refine AKM.x ?_;conv=>whnf)))
 refine CalP.fix (v := .int .u64 ((a.getD (n-1) 0:Nat):Int)) ?_ ?_
 ·refine CalP.walk 1000 N.nat_leading_1 rfl rfl ?_
  (repeat' (first|(refine CmpP.go (fun hc => ?_) (fun hc => ?_)<;>first|(exfalso;omega)|(conv=>whnf))|(refine ConvP.u64 ?_ ?_;omega;conv=>whnf)|(refine LenP.go ?_;conv=>whnf)|(refine RdP.digi (by assumption) ?_ (fun e he hb => ?_);omega;conv=>whnf)|(refine AKM.x ?_;conv=>whnf)))
  ·refine ⟨rfl,_,rfl,?_,rfl⟩
   rw[show ((n:Int)-1).toNat=n-1 by omega]at he
   rw[getD_is he];rfl
  ·refine ⟨rfl,_,rfl,?_,rfl⟩
   rw[←getD_none (show a.length≤n-1 by omega)];rfl
 (conv=>whnf)
 (repeat' (first|(refine Req.go ?_ ?_;omega;conv=>whnf)|(refine OpP.sub ?_ ?_;omega;conv=>whnf)|(refine OpP.nshl32 ?_ ?_;omega;conv=>whnf)))
 refine CalP.fix (v := .int .u64 ((a.getD (n-2) 0:Nat):Int)) ?_ ?_
 ·refine CalP.walk 1000 N.nat_leading_1 rfl rfl ?_
  (repeat' (first|(refine CmpP.go (fun hc => ?_) (fun hc => ?_)<;>first|(exfalso;omega)|(conv=>whnf))|(refine ConvP.u64 ?_ ?_;omega;conv=>whnf)|(refine LenP.go ?_;conv=>whnf)|(refine RdP.digi (by assumption) ?_ (fun e he hb => ?_);omega;conv=>whnf)|(refine AKM.x ?_;conv=>whnf)))
  ·refine ⟨rfl,_,rfl,?_,rfl⟩
   rw[show ((n:Int)-2).toNat=n-2 by omega]at he
   rw[getD_is he];rfl
  ·refine ⟨rfl,_,rfl,?_,rfl⟩
   rw[←getD_none (show a.length≤n-2 by omega)];rfl
 (conv=>whnf)
 generalize a.getD (n-1) 0=d1 at *
 generalize a.getD (n-2) 0=d2 at *
 (repeat' (refine OpP.nor ?_ ?_;omega;conv=>whnf))
 refine OpP.sh8 (by omega) hfit ?_
 (conv=>whnf)
 generalize hT:(d1*4294967296+d2)*2^s=T at *
 (repeat' (first|(refine Req.go ?_ ?_;omega;conv=>whnf)|(refine OpP.sub ?_ ?_;omega;conv=>whnf)))
 refine CalP.fix (v := .int .u64 ((a.getD (n-3) 0:Nat):Int)) ?_ ?_
 ·refine CalP.walk 1000 N.nat_leading_1 rfl rfl ?_
  (repeat' (first|(refine CmpP.go (fun hc => ?_) (fun hc => ?_)<;>first|(exfalso;omega)|(conv=>whnf))|(refine ConvP.u64 ?_ ?_;omega;conv=>whnf)|(refine LenP.go ?_;conv=>whnf)|(refine RdP.digi (by assumption) ?_ (fun e he hb => ?_);omega;conv=>whnf)|(refine AKM.x ?_;conv=>whnf)))
  ·refine ⟨rfl,_,rfl,?_,rfl⟩
   rw[show ((n:Int)-3).toNat=n-3 by omega]at he
   rw[getD_is he];rfl
  ·refine ⟨rfl,_,rfl,?_,rfl⟩
   rw[←getD_none (show a.length≤n-3 by omega)];rfl
 (conv=>whnf)
 generalize a.getD (n-3) 0=d3 at *
 skip
 refine OpP.sh8 (by omega) f4 ?_
 (conv=>whnf)
 (repeat' (refine OpP.nshr32 ?_;conv=>whnf))
 rw[shHi_def]at f2
 refine OpP.nor8 s (by rw[←hT];exact Nat.mul_mod_left _ _) f2 (by have:=mul_room (k:=d1*4294967296+d2) (show s≤64 by omega) (by omega);omega) ?_
 (conv=>whnf)
 (repeat' (first|(refine OpP.nshr2 ?_;conv=>whnf)|(refine ConvP.i64 ?_ ?_;omega;conv=>whnf)))
 rw[heq]
 exact FinP.i rfl
theorem ev_nat_cofactors (N:NatGLib L) (P Q:Int) (hP:0≤P∧P≤4611686018427387904) (hQ:0≤Q∧Q≤4611686018427387904) : ∃ r,Ev L 79 [.int .i64 P,.int .i64 Q] r ∧ ∃ a b c d:Int,(LSg a b c d∧(-2147483647≤a∧a≤2147483647)∧(-2147483647≤b∧b≤2147483647)∧(-2147483647≤c∧c≤2147483647)∧(-2147483647≤d∧d≤2147483647))∧(b≠0→LGood P Q a b c d)∧r = .tup [.int .i64 a,.int .i64 b,.int .i64 c,.int .i64 d]:=by
 refine Ev.xE N.nat_cofactors rfl rfl ?_
 (repeat' (refine AKM.x ?_;conv=>whnf))
 refine AKM.loop6 (fun _ _ _ _ _ q=>(q+2147483648).toNat) (fun (a b c d p q:Int)=>LInv P Q a b c d p q∧((-2147483647≤a∧a≤2147483647)∧(-2147483647≤b∧b≤2147483647)∧(-2147483647≤c∧c≤2147483647)∧(-2147483647≤d∧d≤2147483647))∧(p≤4611686018427387904∧q≤4611686018427387904)∧LHalf P Q a b c d∧(b≠0→LGood P Q a b c d)) (fun a b c d p q=>[(0,.int .i64 p),(1,.int .i64 q),(4,.int .i64 a),(5,.int .i64 b),(6,.int .i64 c),(7,.int .i64 d)]) (fun _ _ _ _ _ _=>[]) [] [] 1 0 0 1 P Q (by (conv=>whnf);exact ⟨rfl,rfl,rfl⟩) ⟨LInv.start hP.1 hQ.1,by omega,by omega,LHalf.start P Q,fun h=>absurd rfl h⟩ ?_
 intro a b c d p q ⟨p1,⟨⟨p2,p2'⟩,⟨p3,p3'⟩,⟨p4,p4'⟩,⟨p5,p5'⟩⟩,⟨p6,p7⟩,p8,p9⟩ ih
 have g1:=p1.pa
 have g2:=p1.pb
 have g3:=p1.qc
 have g4:=p1.qd
 by_cases hc0:q+c=0
 ·(repeat' (first|(refine CmpP.go (fun hc => ?_) (fun hc => ?_)<;>first|(exfalso;omega)|(conv=>whnf))|(refine OpP.add ?_ ?_;omega;conv=>whnf)|(refine AKM.x ?_;conv=>whnf)))
  refine ⟨.tup [.int .i64 a,.int .i64 b,.int .i64 c,.int .i64 d],?_,a,b,c,d,⟨p1.sg,by omega⟩,p9,rfl⟩
  (conv=>whnf)
  exact FinP.go rfl (by simp [Clean,CleanL])
 by_cases hd0:q+d=0
 ·(repeat' (first|(refine CmpP.go (fun hc => ?_) (fun hc => ?_)<;>first|(exfalso;omega)|(conv=>whnf))|(refine OpP.add ?_ ?_;omega;conv=>whnf)|(refine AKM.x ?_;conv=>whnf)))
  refine ⟨.tup [.int .i64 a,.int .i64 b,.int .i64 c,.int .i64 d],?_,a,b,c,d,⟨p1.sg,by omega⟩,p9,rfl⟩
  (conv=>whnf)
  exact FinP.go rfl (by simp [Clean,CleanL])
 by_cases hff:(p+a)/(q+c)=(p+b)/(q+d)
 ·obtain ⟨s1,s2,s3,s4⟩:=p1.step hc0 hd0 rfl hff
  have s5:=s4 p8
  have s6:=s5.half
  have s7:=s1.qc
  by_cases hfl:2147483647<(p+a)/(q+c)
  ·(repeat' (first|(refine CmpP.go (fun hc => ?_) (fun hc => ?_)<;>first|(exfalso;omega)|(conv=>whnf))|(refine OpP.add ?_ ?_;omega;conv=>whnf)|(refine OpP.quo ?_ ?_ (fun _ => ?_) (fun _ _ => ?_);omega;omega;all_goals first|(exfalso;omega)|(conv=>whnf))|(refine AKM.x ?_;conv=>whnf)))
   refine ⟨.tup [.int .i64 a,.int .i64 b,.int .i64 c,.int .i64 d],?_,a,b,c,d,⟨p1.sg,by omega⟩,p9,rfl⟩
   (conv=>whnf)
   exact FinP.go rfl (by simp [Clean,CleanL])
  ·have t1:=int_mul_bd (x:=(p+a)/(q+c)) (y:=c) (M:=2147483647) (N:=2147483647) (by omega) (by omega)
   have t2:=int_mul_bd (x:=(p+a)/(q+c)) (y:=d) (M:=2147483647) (N:=2147483647) (by omega) (by omega)
   (repeat' (first|(refine CmpP.go (fun hc => ?_) (fun hc => ?_)<;>first|(exfalso;omega)|(conv=>whnf))|(refine OpP.add ?_ ?_;omega;conv=>whnf)|(refine OpP.sub ?_ ?_;omega;conv=>whnf)|(refine OpP.mul ?_ ?_;omega;conv=>whnf)|(refine OpP.quo ?_ ?_ (fun _ => ?_) (fun _ _ => ?_);omega;omega;all_goals first|(exfalso;omega)|(conv=>whnf))|(refine UnP.neg ?_ ?_;omega;conv=>whnf)|(refine AKM.x ?_;conv=>whnf)))
   all_goals first
    | exact AKM.back [] (by (conv=>whnf);exact ⟨rfl,rfl,rfl⟩) (ih _ _ _ _ _ _ (by omega) ⟨s1,by omega,by omega,s6,fun _=>s5⟩)
    |(refine ⟨.tup [.int .i64 a,.int .i64 b,.int .i64 c,.int .i64 d],?_,a,b,c,d,⟨p1.sg,by omega⟩,p9,rfl⟩
      (conv=>whnf)
      exact FinP.go rfl (by simp [Clean,CleanL]))
 ·(repeat' (first|(refine CmpP.go (fun hc => ?_) (fun hc => ?_)<;>first|(exfalso;omega)|(conv=>whnf))|(refine OpP.add ?_ ?_;omega;conv=>whnf)|(refine OpP.quo ?_ ?_ (fun _ => ?_) (fun _ _ => ?_);omega;omega;all_goals first|(exfalso;omega)|(conv=>whnf))|(refine AKM.x ?_;conv=>whnf)))
  refine ⟨.tup [.int .i64 a,.int .i64 b,.int .i64 c,.int .i64 d],?_,a,b,c,d,⟨p1.sg,by omega⟩,p9,rfl⟩
  (conv=>whnf)
  exact FinP.go rfl (by simp [Clean,CleanL])
theorem ev_nat_combine (N:NatGLib L) (x y:List Nat) (q1 q2:Bool) (f g:Int) (hX:Dig x) (hY:Dig y) (hl:y.length≤x.length) (lx:x.length≤549755813888) (hs:CSg f g) (R:Nat) (hR:(R:Int)=f*val x+g*val y) (hR2:R≤val x) :
  Ev L 80 [.sl q1 (x.map e32),.sl q2 (y.map e32),.int .i64 f,.int .i64 g] (.sl false ((dg R).map e32)):=by
 refine Ev.x N.nat_combine rfl rfl ?_
 (repeat' (first|(refine LenP.go ?_;conv=>whnf)|(refine AKM.x ?_;conv=>whnf)))
 refine MkR.go (enc:=e32) 0 x.length rfl rfl (by omega) ?_
 (conv=>whnf)
 (repeat' (refine LenP.go ?_;conv=>whnf))
 refine AKM.loop3 (fun i _ _=>x.length-i) (fun (i:Nat) (o:List Nat) (c:Int)=>i≤x.length∧o.length=x.length∧Dig o ∧ -2147483648≤c∧c≤2147483648∧(val (o.take i):Int)+((4294967296^i:Nat):Int)*c=f*val (x.take i)+g*val (y.take i)) (fun i o c=>[(10,.int .i64 c),(19,.int .i64 i)]) (fun i o c=>[(16,16,.rw 1 (o.map e32))]) [] [] 0 (List.replicate x.length 0) 0 (by (conv=>whnf);exact ⟨rfl,rfl,rfl⟩) ⟨by omega,by simp,dig_zeros _,by omega,by omega,by simp [val]⟩ ?_
 intro i o c ⟨p1,p2,p3,p4,p5,p6⟩ ih
 by_cases hi:i<x.length
 ·obtain ⟨d,hd⟩ : ∃ d,x[i]? = some d:=⟨_,List.getElem?_eq_getElem hi⟩
  have hdb:=hX.at hd
  have h1:=val_take_succ hd
  by_cases hy:i<y.length
  ·obtain ⟨e,he⟩ : ∃ e,y[i]? = some e:=⟨_,List.getElem?_eq_getElem hy⟩
   have heb:=hY.at he
   have h2:=val_take_succ he
   obtain ⟨r1,r2,r3⟩:=hs.rng hdb heb
   have hst:=cm_step (d:=d) (e:=e) p6 rfl
   (repeat' (first|(refine CmpP.go (fun hc => ?_) (fun hc => ?_)<;>first|(exfalso;omega)|(conv=>whnf))|(refine OpP.add ?_ ?_;omega;conv=>whnf)|(refine OpP.mul ?_ ?_;omega;conv=>whnf)|(refine ConvP.i64 ?_ ?_;omega;conv=>whnf)|(refine LenP.go ?_;conv=>whnf)|(refine RdP.at (by assumption) ?_ rfl ?_;omega;conv=>whnf)|(refine AKM.x ?_;conv=>whnf)))
   generalize htt:f * ↑d+c+g * ↑e=t at *
   refine ConvP.i32 ?_
   (conv=>whnf)
   (repeat' (first|(refine Req.go ?_ ?_;omega;conv=>whnf)|fail))
   refine StR.dig (by omega) ?_
   (conv=>whnf)
   refine OpP.shr32 ?_
   (conv=>whnf)
   (repeat' (refine OpP.add ?_ ?_;omega;conv=>whnf))
   refine AKM.back [] (by (conv=>whnf);exact ⟨rfl,rfl,rfl⟩) (ih (i+1) _ _ (by omega) ⟨by omega,by simpa using p2,p3.set _ (cmD_lt t),by omega,by omega,?_⟩)
   rw[val_set_take (by omega),h1,h2,Nat.pow_succ]
   simp only[Int.natCast_add,Int.natCast_mul,cmD_eq]
   exact hst
  ·have h2:=val_take_end (y:=y) (i:=i) (by omega)
   obtain ⟨r1,r2,r3⟩:=hs.rng (e:=0) hdb (by omega)
   have hst:=cm_step (d:=d) (e:=0) p6 rfl
   rw[Int.mul_zero,Int.add_zero]at hst
   have r4 : -9223372030412324865≤f*(d:Int)∧f*(d:Int)≤9223372030412324865:=r1
   (repeat' (first|(refine CmpP.go (fun hc => ?_) (fun hc => ?_)<;>first|(exfalso;omega)|(conv=>whnf))|(refine OpP.add ?_ ?_;omega;conv=>whnf)|(refine OpP.mul ?_ ?_;omega;conv=>whnf)|(refine ConvP.i64 ?_ ?_;omega;conv=>whnf)|(refine LenP.go ?_;conv=>whnf)|(refine RdP.at (by assumption) ?_ rfl ?_;omega;conv=>whnf)|(refine AKM.x ?_;conv=>whnf)))
   generalize htt:f * ↑d+c=t at *
   refine ConvP.i32 ?_
   (conv=>whnf)
   (repeat' (first|(refine Req.go ?_ ?_;omega;conv=>whnf)|fail))
   refine StR.dig (by omega) ?_
   (conv=>whnf)
   refine OpP.shr32 ?_
   (conv=>whnf)
   (repeat' (refine OpP.add ?_ ?_;omega;conv=>whnf))
   refine AKM.back [] (by (conv=>whnf);exact ⟨rfl,rfl,rfl⟩) (ih (i+1) _ _ (by omega) ⟨by omega,by simpa using p2,p3.set _ (cmD_lt t),by omega,by omega,?_⟩)
   rw[val_set_take (by omega),h1,h2,Nat.pow_succ]
   simp only[Int.natCast_add,Int.natCast_mul,cmD_eq]
   rw[Int.mul_zero,Int.add_zero]at hst
   exact hst
 ·obtain rfl:i=x.length:=by omega
  clear ih
  rw[val_take_all (by omega),val_take_all (Nat.le_refl _),val_take_all (by omega)]at p6
  have hov:=val_lt p3
  have hxv:=val_lt hX
  rw[p2]at hov
  have hVR:val o=R:=by
   have:=cm_end hov p6 (by omega) (by omega)
   omega
  have hl1:=dg_len_val p3
  rw[←p2,←hVR]
  (repeat' (first|(refine CmpP.go (fun hc => ?_) (fun hc => ?_)<;>first|(exfalso;omega)|(conv=>whnf))|(refine AKM.x ?_;conv=>whnf)|(refine CalP.cutR N (by assumption) (by omega) rfl (by first|rfl|omega|assumption) ?_;conv=>whnf)))
  refine SnR.part (enc:=e32) (fun _=>rfl) (by omega) ?_
  (conv=>whnf)
  refine FinP.go ?_ (by simp only[Clean,true_and];exact cl_dig _)
  rw[List.drop_zero,take_dg p3]
theorem ev_nat_shorten (N:NatGLib L) (X Y:Nat) (hXY:Y≤X) (hy:3≤(dg Y).length) (lx:(dg X).length≤549755813888) : ∃ r,Ev L 81 [.sl false ((dg X).map e32),.sl false ((dg Y).map e32)] r ∧ ∃ A B:Nat,(B<Y∧B≤A∧A≤X∧Nat.gcd A B=Nat.gcd X Y)∧r = .tup [.sl false ((dg A).map e32),.sl false ((dg B).map e32)]:=by
 have hY0:Y≠0:=fun h=>by rw[h,dg_zero]at hy;simp at hy
 have hX0:X≠0:=by omega
 have hlen:=dg_len_mono hXY
 have hdv:=fun q q'=>ev_nat_divide N X Y q q' hY0 lx (by omega)
 have d1:=dig_dg X
 have d2:=dig_dg Y
 have v1:=val_dg X
 have v2:=val_dg Y
 obtain ⟨xt,hxt,hxt0⟩:=dg_top hX0
 have hxtb:=d1.at hxt
 obtain ⟨b1,b2,b3,b4⟩:=lz_top hxt0 hxtb
 have hlz:=ev_LZ32 N xt hxtb
 generalize hs:32-blen xt=s at *
 have hs31:s≤31:=by omega
 obtain ⟨n1,n2⟩:=lift_norm d1 hxt (by omega) hs31 b3 b4
 have hcb:=fun (f g:Int) (R:Nat) (hs:CSg f g) (h1:(R:Int)=f*val (dg X)+g*val (dg Y)) (h2:R≤val (dg X)) (q q':Bool)=>ev_nat_combine N (dg X) (dg Y) q q' f g d1 d2 (by omega) lx hs R h1 h2
 have n3:val (dg Y)*2^s<4294967296^(dg X).length:=Nat.lt_of_le_of_lt (Nat.mul_le_mul_right _ (by omega)) n1
 have hl1:=fun q=>ev_nat_leading N (dg X) q (dg X).length s d1 (by omega) (by omega) lx hs31 n1
 have hl2:=fun q=>ev_nat_leading N (dg Y) q (dg X).length s d2 (by omega) (by omega) lx hs31 n3
 have hK:=leadK_pos (dg X).length s
 obtain ⟨e1,x1,x2,x3⟩:=lead_part (V:=X) hK
 obtain ⟨e2,y1,y2,y3⟩:=lead_part (V:=Y) hK
 rw[v1]at hl1
 rw[v2]at hl2
 have hq1:=lead_le d1 (n:=(dg X).length) (by omega) (by omega) hs31 n1
 have hq2:=lead_le d2 (n:=(dg X).length) (by omega) (by omega) hs31 n3
 rw[v1]at hq1
 rw[v2]at hq2
 generalize leadK (dg X).length s=K at *
 generalize X/K=P at *
 generalize Y/K=Q at *
 rw[v1,v2]at hcb
 obtain ⟨rc,hrc,a,b,c,d,⟨z1,z2,z3,z4,z5⟩,z6,rfl⟩:=ev_nat_cofactors N (P:Int) (Q:Int) (by omega) (by omega)
 have e1:(((dg X).length:Int)-1).toNat=(dg X).length-1:=by omega
 rw[←e1]at hxt
 refine Ev.xE N.nat_shorten rfl rfl ?_
 by_cases hb:b=0
 ·(repeat' (first|(refine CmpP.go (fun hc => ?_) (fun hc => ?_)<;>first|(exfalso;omega)|(conv=>whnf))|(refine OpP.sub ?_ ?_;omega;conv=>whnf)|(refine ConvP.u64 ?_ ?_;omega;conv=>whnf)|(refine LenP.go ?_;conv=>whnf)|(refine RdP.at (by assumption) ?_ rfl ?_;omega;conv=>whnf)|(refine AKM.x ?_;conv=>whnf)|(refine CallP.go (hlz) ?_;conv=>whnf)|(refine CallP.go (hl1 _) ?_;conv=>whnf)|(refine CallP.go (hl2 _) ?_;conv=>whnf)|(refine CallP.go (hrc) ?_;conv=>whnf)|(refine CallP.go (hdv _ _) ?_;conv=>whnf)))
  refine ⟨_,?_,Y,X%Y,⟨Nat.mod_lt _ (by omega),Nat.le_of_lt (Nat.mod_lt _ (by omega)),hXY,gcd_mod_step X Y⟩,rfl⟩
  (conv=>whnf)
  exact FinP.go rfl (cl_pair _ _)
 ·obtain ⟨g1,g2,g3,g4⟩:=z6 hb (X:Int) (Y:Int) (K:Int) _ _ (by omega) x1 y1 x2 x3 y2 y3
  obtain ⟨A,hA⟩:=Int.eq_ofNat_of_zero_le (show 0≤a*X+b*Y by omega)
  obtain ⟨B,hB⟩:=Int.eq_ofNat_of_zero_le g1
  have s1:CSg a b:=by rcases z1 with ⟨h1,h2,h3,h4⟩|⟨h1,h2,h3,h4⟩<;>unfold CSg<;>omega
  have s2:CSg c d:=by rcases z1 with ⟨h1,h2,h3,h4⟩|⟨h1,h2,h3,h4⟩<;>unfold CSg<;>omega
  (repeat' (first|(refine CmpP.go (fun hc => ?_) (fun hc => ?_)<;>first|(exfalso;omega)|(conv=>whnf))|(refine OpP.sub ?_ ?_;omega;conv=>whnf)|(refine ConvP.u64 ?_ ?_;omega;conv=>whnf)|(refine LenP.go ?_;conv=>whnf)|(refine RdP.at (by assumption) ?_ rfl ?_;omega;conv=>whnf)|(refine AKM.x ?_;conv=>whnf)|(refine CallP.go (hlz) ?_;conv=>whnf)|(refine CallP.go (hl1 _) ?_;conv=>whnf)|(refine CallP.go (hl2 _) ?_;conv=>whnf)|(refine CallP.go (hrc) ?_;conv=>whnf)|(refine CallP.go (hcb a b A s1 hA.symm (by omega) _ _) ?_;conv=>whnf)|(refine CallP.go (hcb c d B s2 hB.symm (by omega) _ _) ?_;conv=>whnf)))
  rw[hA,hB]at g4
  rw[hA,hB]at g2
  refine ⟨_,?_,A,B,⟨by omega,by omega,by omega,by simpa using g4⟩,rfl⟩
  (conv=>whnf)
  exact FinP.go rfl (cl_pair _ _)
theorem gcd_main (N:NatGLib L) (X Y:Nat) (hXY:Y≤X) (lx:(dg X).length≤549755813888) :
 AKM L [It.lp nat_Gcd.l1,It.blk 0,
   It.code
    ((((ACode.ops nat_Gcd.r6 false).dr [23,30,31] []).seq
       (ACode.cond 32 (((ACode.ops nat_Gcd.r7 false).dr [5,6,32,33] []).seq ACode.ret) ACode.skip)).seq
     (((ACode.ops nat_Gcd.r8 false).dr [5,7,32,34,35,36,37,38,39] []).seq
      (((ACode.ops nat_Gcd.r9 false).dr [6,8,40,41,42,43] []).seq
       ((ACode.block 2 nat_Gcd.l2.loop).seq
        (((ACode.ops nat_Gcd.r12 false).dr [9,10,45,50,51,52,53,54,55,56] []).seq ACode.ret)))))]
  [(6,AV.sl false (List.map e32 (dg Y))),(5,AV.sl false (List.map e32 (dg X)))] []
  (RetX nat_Gcd (AV.sl false (List.map e32 (dg (X.gcd Y))))):=by
 refine AKM.loop2 (fun _ y=>y) (fun (x y:Nat)=>y≤x∧(dg x).length≤549755813888∧Nat.gcd x y=Nat.gcd X Y) (fun x y=>[(6,AV.sl false (List.map e32 (dg y))),(5,AV.sl false (List.map e32 (dg x)))]) (fun _ _=>[]) [] [] X Y (by (conv=>whnf);exact ⟨rfl,rfl,rfl⟩) ⟨hXY,lx,rfl⟩ ?_
 intro x y ⟨p1,p2,p3⟩ ih
 rw[←p3]at ih ⊢
 generalize Nat.gcd X Y=G at *
 clear hXY lx
 subst p3
 have hlen:=dg_len_mono p1
 by_cases h3:3≤(dg y).length
 ·obtain ⟨r,hr,A,B,⟨k1,k2,k3,k4⟩,rfl⟩:=ev_nat_shorten N x y p1 h3 p2
  have k5:=dg_len_mono k3
  (repeat' (first|(refine CmpP.go (fun hc => ?_) (fun hc => ?_)<;>first|(exfalso;omega)|(conv=>whnf))|(refine LenP.go ?_;conv=>whnf)|(refine AKM.x ?_;conv=>whnf)|(refine CallP.go (hr) ?_;conv=>whnf)))
  exact AKM.back [] (by (conv=>whnf);exact ⟨rfl,rfl,rfl⟩) (ih A B k1 ⟨k2,by omega,k4⟩)
 ·clear ih
  by_cases h0:y=0
  ·subst h0
   have hl0:(dg 0).length=0:=by rw[dg_zero];rfl
   (repeat' (first|(refine CmpP.go (fun hc => ?_) (fun hc => ?_)<;>first|(exfalso;omega)|(conv=>whnf))|(refine LenP.go ?_;conv=>whnf)|(refine AKM.x ?_;conv=>whnf)))
   rw[Nat.gcd_zero_right]
   exact FinP.go rfl (by simp only[Clean,true_and];exact cl_dig _)
  ·have hp:=dg_len_pos h0
   have hm:=dg_len_mono (Nat.le_of_lt (Nat.mod_lt x (show y>0 by omega)))
   have hd:=fun q q'=>ev_nat_divide N x y q q' h0 p2 (by omega)
   have hs1:=fun q=>ev_nat_small N y q (by omega)
   have hs2:=fun q=>ev_nat_small N (x%y) q (by omega)
   have hb:y<18446744073709551616:=dg_len_le.1 (show (dg y).length≤2 by omega)
   have hml:x%y<y:=Nat.mod_lt _ (by omega)
   rw[←gcd_mod_step x y]
   (repeat' (first|(refine CmpP.go (fun hc => ?_) (fun hc => ?_)<;>first|(exfalso;omega)|(conv=>whnf))|(refine LenP.go ?_;conv=>whnf)|(refine AKM.x ?_;conv=>whnf)|(refine CallP.go (hd _ _) ?_;conv=>whnf)|(refine CallP.go (hs1 _) ?_;conv=>whnf)|(refine CallP.go (hs2 _) ?_;conv=>whnf)))
   refine AKM.loop2 (fun _ q=>q) (fun (p q:Nat)=>p<18446744073709551616∧q<18446744073709551616∧Nat.gcd p q=Nat.gcd y (x%y)) (fun p q=>[(9,.int .u64 (p:Int)),(10,.int .u64 (q:Int))]) (fun _ _=>[]) [] [] y (x%y) (by (conv=>whnf);exact ⟨rfl,rfl,rfl⟩) ⟨hb,by omega,rfl⟩ ?_
   intro p q ⟨g1,g2,g3⟩ ih
   rw[←g3]at ih ⊢
   by_cases hq:q=0
   ·subst hq
    clear ih
    obtain ⟨v1,v2⟩:=dg2 g1
    rw[Nat.gcd_zero_right]
    have hl1:=dg_len_val v2
    have ht:=take_dg v2
    rw[v1]at hl1 ht
    (repeat' (first|(refine CmpP.go (fun hc => ?_) (fun hc => ?_)<;>first|(exfalso;omega)|(conv=>whnf))|(refine OpP.nshr32 ?_;conv=>whnf)|(refine ConvP.n32i ?_ ?_;omega;conv=>whnf)|(refine ConvP.n32 ?_;conv=>whnf)|(refine AKM.x ?_;conv=>whnf)))
    generalize p%4294967296=lo at *
    generalize p/4294967296=hi at *
    refine CalP.cutR N v2 (by simp) rfl rfl ?_
    rw[v1]
    (conv=>whnf)
    skip
    refine SnR.part (enc:=e32) (l:=[lo,hi]) (fun _=>rfl) (by omega) ?_
    (conv=>whnf)
    refine FinP.go ?_ (by simp only[Clean,true_and];exact cl_dig _)
    rw[List.drop_zero,ht]
   ·have hpq:p%q<q:=Nat.mod_lt _ (by omega)
    (repeat' (first|(refine CmpP.go (fun hc => ?_) (fun hc => ?_)<;>first|(exfalso;omega)|(conv=>whnf))|(refine OpP.nrem ?_ ?_;omega;conv=>whnf)|(refine AKM.x ?_;conv=>whnf)))
    exact AKM.back [] (by (conv=>whnf);exact ⟨rfl,rfl,rfl⟩) (ih q (p%q) hpq ⟨g2,by omega,gcd_mod_step p q⟩)
theorem ev_nat_Gcd (N:NatGLib L) (a b:List Nat) (q1 q2:Bool) (hA:Dig a) (hB:Dig b) (la:a.length≤549755813888) (lb:b.length≤549755813888) :
  Ev L 82 [.sl q1 (a.map e32),.sl q2 (b.map e32)] (.sl false ((dg (Nat.gcd (val a) (val b))).map e32)):=by
 have t1:=fun q=>ev_Trim N a q hA (by omega)
 have t2:=fun q=>ev_Trim N b q hB (by omega)
 have l1:=dg_len_val hA
 have l2:=dg_len_val hB
 have hcmp:=fun q q'=>ev_nat_Compare N (dg (val a)) (dg (val b)) q q' (dig_dg _) (dig_dg _) (by omega) (by omega)
 rw[val_dg,val_dg]at hcmp
 generalize val a=X at *
 generalize val b=Y at *
 refine Ev.x N.nat_Gcd rfl rfl ?_
 by_cases hlt:X<Y
 ·have hn:cmpS X Y = -1:=(cmpS_lt (by omega)).symm
  rw[hn]at hcmp
  (repeat' (first|(refine CmpP.go (fun hc => ?_) (fun hc => ?_)<;>first|(exfalso;omega)|(conv=>whnf))|(refine AKM.x ?_;conv=>whnf)|(refine CallP.go (t1 _) ?_;conv=>whnf)|(refine CallP.go (t2 _) ?_;conv=>whnf)|(refine CallP.go (hcmp _ _) ?_;conv=>whnf)))
  rw[Nat.gcd_comm]
  exact AKM.back [] (by (conv=>whnf);exact ⟨rfl,rfl,rfl⟩) (gcd_main N Y X (by omega) (by omega))
 ·have hge:0≤cmpS X Y:=by unfold cmpS;split<;>(try split)<;>omega
  generalize cmpS X Y=cm at *
  (repeat' (first|(refine CmpP.go (fun hc => ?_) (fun hc => ?_)<;>first|(exfalso;omega)|(conv=>whnf))|(refine AKM.x ?_;conv=>whnf)|(refine CallP.go (t1 _) ?_;conv=>whnf)|(refine CallP.go (t2 _) ?_;conv=>whnf)|(refine CallP.go (hcmp _ _) ?_;conv=>whnf)))
  exact AKM.back [] (by (conv=>whnf);exact ⟨rfl,rfl,rfl⟩) (gcd_main N X Y (by omega) (by omega))
end Go.Eng
namespace Go.Eng
def resLtC (N:Nat):List ARes→Bool
 | []=>true
 | .tmp t::r=>Nat.blt t N&&resLtC N r
 | .cell t _ _::r=>Nat.blt t N&&resLtC N r
theorem resOf_lo {N:Nat} {s s':St} (ho:s.own=s'.own) (hlo : ∀ j,j<N→tget s'.tm j=tget s.tm j) : ∀ {res:List ARes},resLtC N res=true→res.mapM (resOf s)=res.mapM (resOf s')
 | [],_=>rfl
 | .tmp t::r,h=>by
  simp only[resLtC,Bool.and_eq_true]at h
  have:=resOf_lo ho hlo h.2
  simp only[List.mapM_cons,resOf,hlo t (blt_iff.1 h.1),this]
 | .cell t agg n::r,h=>by
  simp only[resLtC,Bool.and_eq_true]at h
  have:=resOf_lo ho hlo h.2
  simp only[List.mapM_cons,resOf,hlo t (blt_iff.1 h.1),this,ho]
def RetC (N:Nat) (fn:AFn) (tm:Tm) (K:AV→Mem→Prop) (tm':Tm) (M':Mem):Prop:=gh N tm'=tm∧resLX tm' M' fn.res (fun rs=>rsv rs fun v=>K v M')
theorem CalP.walkC {L:Lib} {f:Nat} {fn:AFn} {vs:List AV} {tm:Tm} {M:Mem} {K:AV→Mem→Prop} (N:Nat) (hL:L f=some fn) (hp:Nat.beq vs.length fn.pars=true) (hN:(Nat.ble fn.pars N&&(cLt N fn.body&&resLtC N fn.res))=true)
  (h:AKM L [.code fn.body] (initTm 0 vs++shT N tm) M (RetC N fn tm K)):CalP L f vs tm M K:=by
 intro σ own hs
 simp only[Bool.and_eq_true]at hN
 obtain ⟨n1,n2,n3⟩:=hN
 have n1:=Nat.le_of_ble_eq_true n1
 have hp:vs.length=fn.pars:=Nat.eq_of_beq_eq_true hp
 have hrx:RX σ (initTm 0 vs++shT N tm) M ⟨mapT (st3 σ) (initTm 0 vs++shT N tm),own⟩:=⟨fun j=>Or.inr (by rw[tg_eq];exact tget_mapT (st3_any σ) j _),hs⟩
 obtain ⟨n,c,s',hr,σ',tm',M',hR,hg,hres⟩:=h σ _ hrx
 have hgh:Gh N (mapT (st3 σ) (shT N tm)) (initTm 0 (vs.map (st3 σ))) (mapT (st3 σ) (initTm 0 vs++shT N tm)):=by
  constructor
  ·intro j hj
   rw[initTm_map,tget_mapT (st3_any σ),tget_mapT (st3_any σ)]
   rcases tget_append j (shT N tm) (initTm 0 vs) with ⟨_,e⟩|⟨hn,e⟩
   ·rw[e]
   ·rw[e,tget_shT_lt hj,tget_initTm_hi j 0 vs hn]
  ·intro j hj
   rw[tget_mapT (st3_any σ),tget_mapT (st3_any σ)]
   rcases tget_append j (shT N tm) (initTm 0 vs) with ⟨hn,e⟩|⟨_,e⟩
   ·have:=initTm_any j 0 vs hn
    omega
   ·rw[e]
 obtain ⟨s,r1,r2,r3⟩:=run_gh n (by simp [iLt,n2]) hgh hr
 obtain ⟨rs,i1,i2,i3⟩:=resLX_sound hR hres
 rw[←resOf_lo (s:=s) r2.symm r3.lo n3,i3]at i1
 have key : ∃ r,resVal (rs.map (st2 σ'))=st3 σ' r∧K r M':=by
  match rs,i2,i3 with
  | [],h,_=>exact ⟨.tup [],rfl,h⟩
  | [v],h,e =>
   simp only[List.map_cons,List.map_nil,List.cons.injEq,and_true]at e
   exact ⟨v,by simp only[List.map_cons,List.map_nil,resVal];exact e.symm,h⟩
  | a::b::l,h,_=>exact ⟨.tup (a::b::l),rfl,h⟩
 obtain ⟨r,k1,k2⟩:=key
 refine ⟨r,s.own,σ',M',EvI.intro hL (by simpa using hp) ⟨n,c,s,r1,?_,rfl⟩,?_,?_,k2⟩
 ·rw[i1,Option.map_some,k1]
 ·rw[←r2];exact hR.sat
 ·intro j
  have e1:tg tm j=tg tm' (N+j):=by rw[tg_eq,tg_eq,←hg,tget_gh]
  rcases hR.tm (N+j) with e|e
  ·rw[e1,e];rfl
  ·rw[e1,←e,r3.hi (N+j) (by omega),tget_mapT (st3_any σ),tget_shT,←tg_eq,e1]
end Go.Eng

namespace Go.Eng
open F
attribute [local irreducible] AKM CmpP Req OpP UnP ConvP RdP LdR StR MkR LenP AppR AppN CpyR RowP SnR Bds SlS CallP CalP FinP pw LdM GetM SetM PutM MkM AppM SnM FlP CallR
set_option maxHeartbeats 4000000
variable {L:Lib}
theorem ConvP.u64neg {k:Nat} {K:Int→Prop} (h:0<k∧k≤9223372036854775808) (hk:K ((18446744073709551616-k:Nat):Int)):ConvP .u64 (-(k:Int)) K:=by
 unfold ConvP
 have e:IntKind.u64.wrap (-(k:Int))=((18446744073709551616-k:Nat):Int):=by
  simp [IntKind.wrap,IntKind.bits,IntKind.signed];omega
 rw[e];exact hk
theorem UnP.neg64 {k:Nat} {K:AV→Prop} (h:0<k∧k≤9223372036854775808) (hk:K (.int .u64 (k:Int))):UnP .neg .u64 ((18446744073709551616-k:Nat):Int) K:=by
 refine UnP.go (v := .int .u64 (IntKind.u64.wrap (0-((18446744073709551616-k:Nat):Int)))) rfl ?_
 have e:IntKind.u64.wrap (0-((18446744073709551616-k:Nat):Int))=(k:Int):=by
  simp [IntKind.wrap,IntKind.bits,IntKind.signed];omega
 rw[e];exact hk
theorem ev_integer_Of (N:RatGLib L) (z:Int) (hz : -9223372036854775808≤z∧z≤9223372036854775807):Ev L 85 [.int .i64 z] (.agg (eZ z)):=by
 have two : ∀ k:Nat,k<18446744073709551616 → ∀ q,Ev L 66 [.sl q [[.int .u32 ((k%4294967296:Nat):Int)],[.int .u32 ((k/4294967296:Nat):Int)]]] (.sl false ((dg k).map e32)):=fun k hk q=>by
  have:=ev_Trim N.toNatGLib [k%4294967296,k/4294967296] q (dg2 hk).2 (by simp)
  rw[val_two hk]at this
  exact this
 refine Ev.x N.integer_Of rfl rfl ?_
 by_cases h0:0≤z
 ·obtain ⟨k,rfl⟩:=Int.eq_ofNat_of_zero_le h0
  have hT:=two k (by omega)
  have z1:=dg_len0 k
  (repeat' (first|(refine CmpP.go (fun hc => ?_) (fun hc => ?_)<;>first|(exfalso;omega)|(conv=>whnf))|(refine OpP.nshr32 ?_;conv=>whnf)|(refine ConvP.u64 ?_ ?_;omega;conv=>whnf)|(refine ConvP.n32i ?_ ?_;omega;conv=>whnf)|(refine ConvP.n32 ?_;conv=>whnf)|(refine SnR.e2 rfl rfl ?_;conv=>whnf)|(refine AKM.x ?_;conv=>whnf)))
  generalize k%4294967296=lo at *
  generalize k/4294967296=hi at *
  (repeat' (refine CallP.go (hT _) ?_;conv=>whnf))
  refine CalP.walkC 1000 N.integer_signed rfl rfl ?_
  (repeat' (refine AKM.x ?_;conv=>whnf))
  all_goals (refine ⟨rfl,?_⟩;(conv=>whnf);skip)
  exact FinP.go (agg_eZ (by omega) (sgn_F (by omega))) (cl_eZ _)
 ·obtain ⟨k,hk⟩:=Int.eq_ofNat_of_zero_le (show 0 ≤ -z by omega)
  obtain rfl:z = -(k:Int):=by omega
  have hT:=two k (by omega)
  have z1:=dg_len0 k
  (repeat' (refine AKM.x ?_;conv=>whnf))
  refine ConvP.u64neg (by omega) ?_
  (conv=>whnf)
  (repeat' (refine CmpP.go (fun hc => ?_) (fun hc => ?_)<;>first|(exfalso;omega)|(conv=>whnf)))
  refine UnP.neg64 (by omega) ?_
  (conv=>whnf)
  (repeat' (first|(refine CmpP.go (fun hc => ?_) (fun hc => ?_)<;>first|(exfalso;omega)|(conv=>whnf))|(refine OpP.nshr32 ?_;conv=>whnf)|(refine ConvP.n32i ?_ ?_;omega;conv=>whnf)|(refine ConvP.n32 ?_;conv=>whnf)|(refine SnR.e2 rfl rfl ?_;conv=>whnf)))
  generalize k%4294967296=lo at *
  generalize k/4294967296=hi at *
  (repeat' (refine CallP.go (hT _) ?_;conv=>whnf))
  refine CalP.walkC 1000 N.integer_signed rfl rfl ?_
  (repeat' (first|(refine CmpP.go (fun hc => ?_) (fun hc => ?_)<;>first|(exfalso;omega)|(conv=>whnf))|(refine LenP.go ?_;conv=>whnf)|(refine AKM.x ?_;conv=>whnf)))
  all_goals (refine ⟨rfl,?_⟩;(conv=>whnf);skip)
  exact FinP.go (agg_eZ (by omega) (sgn_T (by omega))) (cl_eZ _)
theorem ev_integer_Trim (N:RatGLib L) (n q:Bool) (m:List Nat) (hm:Sm 549755813888 m):Ev L 84 [.agg (rZ q n m)] (.agg (eZ (zv n m))):=by
 have hT:=fun q=>ev_Trim N.toNatGLib m q hm.1 (by have:=hm.2;omega)
 have hz:=dg_len0 (val m)
 have ha:=zv_abs n m
 refine Ev.x N.integer_Trim rfl rfl ?_
 cases n
 ·rw[zv_F]at *
  (repeat' (first|(refine AKM.x ?_;conv=>whnf)|(refine CallP.go (hT _) ?_;conv=>whnf)))
  refine CalP.walkC 1000 N.integer_signed rfl rfl ?_
  (repeat' (refine AKM.x ?_;conv=>whnf))
  all_goals (refine ⟨rfl,?_⟩;(conv=>whnf);skip)
  exact FinP.go (agg_eZ ha.symm (sgn_F (by omega))) (cl_eZ _)
 ·rw[zv_T]at *
  (repeat' (first|(refine AKM.x ?_;conv=>whnf)|(refine CallP.go (hT _) ?_;conv=>whnf)))
  refine CalP.walkC 1000 N.integer_signed rfl rfl ?_
  (repeat' (first|(refine CmpP.go (fun hc => ?_) (fun hc => ?_)<;>first|(exfalso;omega)|(conv=>whnf))|(refine LenP.go ?_;conv=>whnf)|(refine AKM.x ?_;conv=>whnf)))
  all_goals (refine ⟨rfl,?_⟩;(conv=>whnf);skip)
  ·exact FinP.go (agg_eZ ha.symm (sgn_T (by omega))) (cl_eZ _)
  ·exact FinP.go (agg_eZ ha.symm (sgn_F (by omega))) (cl_eZ _)
theorem ev_integer_Sign (N:RatGLib L) (n q:Bool) (m:List Nat) (hm:Sm 549755813888 m):Ev L 86 [.agg (rZ q n m)] (.int .i64 (sgn (zv n m))):=by
 have hcmp:=fun q q'=>ev_nat_Compare N.toNatGLib m [] q q' hm.1 dig_nil (by have:=hm.2;omega) (by simp)
 rw[val_nil]at hcmp
 refine Ev.x N.integer_Sign rfl rfl ?_
 by_cases h0:val m=0
 ·have hn:cmpS (val m) (0:Nat)=0:=(cmpS_eq (by omega)).symm
  rw[hn]at hcmp
  (repeat' (first|(refine CmpP.go (fun hc => ?_) (fun hc => ?_)<;>first|(exfalso;omega)|(conv=>whnf))|(refine AKM.x ?_;conv=>whnf)|(refine CallP.go (hcmp _ _) ?_;conv=>whnf)))
  exact FinP.i (sgn_zero (by have:=zv_abs n m;omega))
 ·have hn:cmpS (val m) (0:Nat)=1:=(cmpS_gt (by omega)).symm
  rw[hn]at hcmp
  cases n
  ·(repeat' (first|(refine CmpP.go (fun hc => ?_) (fun hc => ?_)<;>first|(exfalso;omega)|(conv=>whnf))|(refine AKM.x ?_;conv=>whnf)|(refine CallP.go (hcmp _ _) ?_;conv=>whnf)))
   exact FinP.i (sgn_pos (by rw[zv_F];omega))
  ·(repeat' (first|(refine CmpP.go (fun hc => ?_) (fun hc => ?_)<;>first|(exfalso;omega)|(conv=>whnf))|(refine AKM.x ?_;conv=>whnf)|(refine CallP.go (hcmp _ _) ?_;conv=>whnf)))
   exact FinP.i (sgn_neg (by rw[zv_T];omega))
theorem ev_integer_Add (N:RatGLib L) (n1 n2 q1 q2:Bool) (a b:List Nat) (ha:Sm 549755813888 a) (hb:Sm 549755813888 b):Ev L 87 [.agg (rZ q1 n1 a),.agg (rZ q2 n2 b)] (.agg (eZ (zv n1 a+zv n2 b))):=by
 have la:=ha.2
 have lb:=hb.2
 have h1:=fun q q'=>ev_nat_Add N.toNatGLib a b q q' ha.1 hb.1 (by omega) (by omega)
 have h2:=fun q q'=>ev_nat_Sub N.toNatGLib a b q q' ha.1 hb.1 (by omega) (by omega)
 have h3:=fun q q'=>ev_nat_Sub N.toNatGLib b a q q' hb.1 ha.1 (by omega) (by omega)
 have hcmp:=fun q q'=>ev_nat_Compare N.toNatGLib a b q q' ha.1 hb.1 (by omega) (by omega)
 have z1:=dg_len0 (val a+val b)
 have z2:=dg_len0 (val a-val b)
 have z3:=dg_len0 (val b-val a)
 refine Ev.x N.integer_Add rfl rfl ?_
 by_cases hlt:val a<val b
 ·have hn:cmpS (val a) (val b) = -1:=(cmpS_lt (by omega)).symm
  rw[hn]at hcmp
  cases n1<;>cases n2<;>simp only[zv_F,zv_T]
  ·(repeat' (first|(refine AKM.x ?_;conv=>whnf)|(refine CallP.go (h1 _ _) ?_;conv=>whnf)))
   refine CalP.walkC 1000 N.integer_signed rfl rfl ?_
   (repeat' (refine AKM.x ?_;conv=>whnf))
   all_goals (refine ⟨rfl,?_⟩;(conv=>whnf);skip)
   exact FinP.go (agg_eZ (by omega) (sgn_F (by omega))) (cl_eZ _)
  ·(repeat' (first|(refine CmpP.go (fun hc => ?_) (fun hc => ?_)<;>first|(exfalso;omega)|(conv=>whnf))|(refine AKM.x ?_;conv=>whnf)|(refine CallP.go (h3 _ _) ?_;conv=>whnf)|(refine CallP.go (hcmp _ _) ?_;conv=>whnf)))
   refine CalP.walkC 1000 N.integer_signed rfl rfl ?_
   (repeat' (first|(refine CmpP.go (fun hc => ?_) (fun hc => ?_)<;>first|(exfalso;omega)|(conv=>whnf))|(refine LenP.go ?_;conv=>whnf)|(refine AKM.x ?_;conv=>whnf)))
   all_goals (refine ⟨rfl,?_⟩;(conv=>whnf);skip)
   ·exact FinP.go (agg_eZ (by omega) (sgn_T (by omega))) (cl_eZ _)
  ·(repeat' (first|(refine CmpP.go (fun hc => ?_) (fun hc => ?_)<;>first|(exfalso;omega)|(conv=>whnf))|(refine AKM.x ?_;conv=>whnf)|(refine CallP.go (h3 _ _) ?_;conv=>whnf)|(refine CallP.go (hcmp _ _) ?_;conv=>whnf)))
   refine CalP.walkC 1000 N.integer_signed rfl rfl ?_
   (repeat' (refine AKM.x ?_;conv=>whnf))
   all_goals (refine ⟨rfl,?_⟩;(conv=>whnf);skip)
   ·exact FinP.go (agg_eZ (by omega) (sgn_F (by omega))) (cl_eZ _)
  ·(repeat' (first|(refine AKM.x ?_;conv=>whnf)|(refine CallP.go (h1 _ _) ?_;conv=>whnf)))
   refine CalP.walkC 1000 N.integer_signed rfl rfl ?_
   (repeat' (first|(refine CmpP.go (fun hc => ?_) (fun hc => ?_)<;>first|(exfalso;omega)|(conv=>whnf))|(refine LenP.go ?_;conv=>whnf)|(refine AKM.x ?_;conv=>whnf)))
   all_goals (refine ⟨rfl,?_⟩;(conv=>whnf);skip)
   ·exact FinP.go (agg_eZ (by omega) (sgn_T (by omega))) (cl_eZ _)
 ·have hn:cmpS (val a) (val b) ≠ -1:=by unfold cmpS;split<;>(try split)<;>omega
  generalize cmpS (val a) (val b)=cm at *
  cases n1<;>cases n2<;>simp only[zv_F,zv_T]
  ·(repeat' (first|(refine AKM.x ?_;conv=>whnf)|(refine CallP.go (h1 _ _) ?_;conv=>whnf)))
   refine CalP.walkC 1000 N.integer_signed rfl rfl ?_
   (repeat' (refine AKM.x ?_;conv=>whnf))
   all_goals (refine ⟨rfl,?_⟩;(conv=>whnf);skip)
   exact FinP.go (agg_eZ (by omega) (sgn_F (by omega))) (cl_eZ _)
  ·(repeat' (first|(refine CmpP.go (fun hc => ?_) (fun hc => ?_)<;>first|(exfalso;omega)|(conv=>whnf))|(refine AKM.x ?_;conv=>whnf)|(refine CallP.go (h2 _ _) ?_;conv=>whnf)|(refine CallP.go (hcmp _ _) ?_;conv=>whnf)))
   refine CalP.walkC 1000 N.integer_signed rfl rfl ?_
   (repeat' (refine AKM.x ?_;conv=>whnf))
   all_goals (refine ⟨rfl,?_⟩;(conv=>whnf);skip)
   exact FinP.go (agg_eZ (by omega) (sgn_F (by omega))) (cl_eZ _)
  ·(repeat' (first|(refine CmpP.go (fun hc => ?_) (fun hc => ?_)<;>first|(exfalso;omega)|(conv=>whnf))|(refine AKM.x ?_;conv=>whnf)|(refine CallP.go (h2 _ _) ?_;conv=>whnf)|(refine CallP.go (hcmp _ _) ?_;conv=>whnf)))
   refine CalP.walkC 1000 N.integer_signed rfl rfl ?_
   (repeat' (first|(refine CmpP.go (fun hc => ?_) (fun hc => ?_)<;>first|(exfalso;omega)|(conv=>whnf))|(refine LenP.go ?_;conv=>whnf)|(refine AKM.x ?_;conv=>whnf)))
   all_goals (refine ⟨rfl,?_⟩;(conv=>whnf);skip)
   ·exact FinP.go (agg_eZ (by omega) (sgn_T (by omega))) (cl_eZ _)
   ·exact FinP.go (agg_eZ (by omega) (sgn_F (by omega))) (cl_eZ _)
  ·(repeat' (first|(refine AKM.x ?_;conv=>whnf)|(refine CallP.go (h1 _ _) ?_;conv=>whnf)))
   refine CalP.walkC 1000 N.integer_signed rfl rfl ?_
   (repeat' (first|(refine CmpP.go (fun hc => ?_) (fun hc => ?_)<;>first|(exfalso;omega)|(conv=>whnf))|(refine LenP.go ?_;conv=>whnf)|(refine AKM.x ?_;conv=>whnf)))
   all_goals (refine ⟨rfl,?_⟩;(conv=>whnf);skip)
   ·exact FinP.go (agg_eZ (by omega) (sgn_T (by omega))) (cl_eZ _)
   ·exact FinP.go (agg_eZ (by omega) (sgn_F (by omega))) (cl_eZ _)
theorem ev_integer_Mul (N:RatGLib L) (n1 n2 q1 q2:Bool) (a b:List Nat) (ha:Dig a) (hb:Dig b) (hl:a.length+b.length≤1099511627776):Ev L 88 [.agg (rZ q1 n1 a),.agg (rZ q2 n2 b)] (.agg (eZ (zv n1 a*zv n2 b))):=by
 have h1:=fun q q'=>ev_nat_Mul N.toNatGLib a b q q' ha hb hl
 have z1:=dg_len0 (val a*val b)
 have habs:(zv n1 a*zv n2 b).natAbs=val a*val b:=by rw[Int.natAbs_mul,zv_abs,zv_abs]
 refine Ev.x N.integer_Mul rfl rfl ?_
 have e:zv n1 a*zv n2 b=bif n1 == n2 then ((val a*val b:Nat):Int) else -((val a*val b:Nat):Int):=by
  cases n1<;>cases n2<;>simp [zv_F,zv_T,Int.mul_neg,Int.neg_mul]
 rw[e]at habs ⊢
 generalize val a*val b=V at *
 cases n1<;>cases n2<;>simp only[beq_self_eq_true,cond_true,show (false == true)=false from rfl,show (true == false)=false from rfl,cond_false]
 ·(repeat' (first|(refine AKM.x ?_;conv=>whnf)|(refine CallP.go (h1 _ _) ?_;conv=>whnf)))
  refine CalP.walkC 1000 N.integer_signed rfl rfl ?_
  (repeat' (refine AKM.x ?_;conv=>whnf))
  all_goals (refine ⟨rfl,?_⟩;(conv=>whnf);skip)
  exact FinP.go (agg_eZ (by omega) (sgn_F (by omega))) (cl_eZ _)
 ·(repeat' (first|(refine AKM.x ?_;conv=>whnf)|(refine CallP.go (h1 _ _) ?_;conv=>whnf)))
  refine CalP.walkC 1000 N.integer_signed rfl rfl ?_
  (repeat' (first|(refine CmpP.go (fun hc => ?_) (fun hc => ?_)<;>first|(exfalso;omega)|(conv=>whnf))|(refine LenP.go ?_;conv=>whnf)|(refine AKM.x ?_;conv=>whnf)))
  all_goals (refine ⟨rfl,?_⟩;(conv=>whnf);skip)
  ·exact FinP.go (agg_eZ (by omega) (sgn_T (by omega))) (cl_eZ _)
  ·exact FinP.go (agg_eZ (by omega) (sgn_F (by omega))) (cl_eZ _)
 ·(repeat' (first|(refine AKM.x ?_;conv=>whnf)|(refine CallP.go (h1 _ _) ?_;conv=>whnf)))
  refine CalP.walkC 1000 N.integer_signed rfl rfl ?_
  (repeat' (first|(refine CmpP.go (fun hc => ?_) (fun hc => ?_)<;>first|(exfalso;omega)|(conv=>whnf))|(refine LenP.go ?_;conv=>whnf)|(refine AKM.x ?_;conv=>whnf)))
  all_goals (refine ⟨rfl,?_⟩;(conv=>whnf);skip)
  ·exact FinP.go (agg_eZ (by omega) (sgn_T (by omega))) (cl_eZ _)
  ·exact FinP.go (agg_eZ (by omega) (sgn_F (by omega))) (cl_eZ _)
 ·(repeat' (first|(refine AKM.x ?_;conv=>whnf)|(refine CallP.go (h1 _ _) ?_;conv=>whnf)))
  refine CalP.walkC 1000 N.integer_signed rfl rfl ?_
  (repeat' (refine AKM.x ?_;conv=>whnf))
  all_goals (refine ⟨rfl,?_⟩;(conv=>whnf);skip)
  exact FinP.go (agg_eZ (by omega) (sgn_F (by omega))) (cl_eZ _)
end Go.Eng

namespace Go.Eng
open F
attribute [local irreducible] AKM CmpP Req OpP UnP ConvP RdP LdR StR MkR LenP AppR AppN CpyR RowP SnR Bds SlS CallP CalP FinP pw LdM GetM SetM PutM MkM AppM SnM FlP CallR
set_option maxHeartbeats 4000000
variable {L:Lib}
theorem dg_one:dg 1=[1]:=by rw[dg_pos (by omega)];simp [dg_zero]
theorem ev_isOne (N:RatGLib L) (V:Nat) (q:Bool):Ev L 90 [.sl q ((dg V).map e32)] (.bool (decide (V=1))):=by
 have hv:=val_dg V
 have hD:=dig_dg V
 have h1:V=1→dg V=[1]:=fun h=>by rw[h,dg_one]
 generalize dg V=l at *
 refine Ev.x N.rational_isOne rfl rfl ?_
 by_cases hl:l.length=1
 ·obtain ⟨d,rfl⟩:=List.length_eq_one_iff.1 hl
  have e:V=d:=by rw[←hv];simp [val]
  subst e
  have hd:[V][(0:Int).toNat]? = some V:=rfl
  (repeat' (first|(refine CmpP.go (fun hc => ?_) (fun hc => ?_)<;>first|(exfalso;omega)|(conv=>whnf))|(refine LenP.go ?_;conv=>whnf)|(refine RdP.at (by assumption) ?_ rfl ?_;omega;conv=>whnf)|(refine AKM.x ?_;conv=>whnf)))
  ·exact FinP.dt (by omega)
  ·exact FinP.df (by omega)
 ·(repeat' (first|(refine CmpP.go (fun hc => ?_) (fun hc => ?_)<;>first|(exfalso;omega)|(conv=>whnf))|(refine LenP.go ?_;conv=>whnf)|(refine AKM.x ?_;conv=>whnf)))
  exact FinP.df (fun h=>by rw[h1 h]at hl;simp at hl)
theorem ev_lowest (N:RatGLib L) (n q1 q2:Bool) (m d:List Nat) (hm:Sm 549755813888 m) (hd:Sm 549755813888 d) (h0:val d≠0):Ev L 94 [.agg (rQ q1 q2 n m d)] (.agg (eQ (qv n m d))):=by
 have hDM:=fun q q'=>ev_nat_DivMod N.toNatGLib m d q q' hm.1 hd.1 hm.2 hd.2 h0
 have hza:=zv_abs n m
 have sq:Sm 549755813888 (dg (val m/val d)):=hm.low (Nat.div_le_self _ _)
 have sr:Sm 549755813888 (dg (val m%val d)):=hd.low (Nat.le_of_lt (Nat.mod_lt _ (by omega)))
 have hT:=fun q=>ev_integer_Trim N n q _ sq
 have hG:=fun q q'=>ev_nat_Gcd N.toNatGLib d (dg (val m%val d)) q q' hd.1 sr.1 hd.2 sr.2
 rw[val_dg,show Nat.gcd (val d) (val m%val d)=Nat.gcd (val d) (zv n m).natAbs by rw[hza,gcd_mod_step,Nat.gcd_comm]]at hG
 have hgp:=gcd_pos' (zv n m).natAbs h0
 have hgd:=Nat.gcd_le_left (zv n m).natAbs (show 0<val d by omega)
 have hz:=dg_len0 (val m%val d)
 obtain ⟨e1,e2,e3⟩:=mk_parts (z:=zv n m) h0
 unfold qv
 generalize hGG:Nat.gcd (val d) (zv n m).natAbs=g at *
 have h1:=fun q=>ev_isOne N g q
 refine Ev.x N.rational_pair_lowest rfl rfl ?_
 by_cases hr0:val m%val d=0
 ·(repeat' (first|(refine CmpP.go (fun hc => ?_) (fun hc => ?_)<;>first|(exfalso;omega)|(conv=>whnf))|(refine LenP.go ?_;conv=>whnf)|(refine AKM.x ?_;conv=>whnf)|(refine CallP.go (hDM _ _) ?_;conv=>whnf)|(refine CallP.go (hT _) ?_;conv=>whnf)))
  refine CalP.walkC 1000 N.rational_whole rfl rfl ?_
  (repeat' (refine AKM.x ?_;conv=>whnf))
  refine ⟨rfl,?_⟩
  (conv=>whnf)
  (repeat' (refine SnR.e1 rfl ?_;conv=>whnf))
  have hge:g=val d:=by
   rw[←hGG,hza]
   exact Nat.gcd_eq_left (Nat.dvd_of_mod_eq_zero hr0)
  have hv:=val_dg (val m/val d)
  refine FinP.go ?_ ?_
  ·show _=AV.agg (rQ _ _ _ _ _)
   rw[e1,e2,e3,hza,hge,Nat.div_self (by omega),zv_abs,hv,dg_one]
   have hs:decide (zv n (dg (val m/val d))<0)=decide (zv n m<0):=by
    cases n
    ·rw[zv_F,zv_F];simp;omega
    ·rw[zv_T,zv_T,hv]
     congr 1
     rw[eq_iff_iff]
     have h5:=Nat.div_add_mod (val m) (val d)
     rw[hr0,Nat.add_zero]at h5
     constructor
     ·intro h6
      have h7:val m/val d≠0:=by omega
      have:val m≠0:=fun h8=>h7 (by rw[h8,Nat.zero_div])
      omega
     ·intro h6
      have h7:val m/val d≠0:=fun h8=>by rw[h8,Nat.mul_zero]at h5;omega
      omega
   rw[hs]
   rfl
  ·exact cl_eQ _
 ·by_cases hg1:g=1
  ·have hT1:=fun q=>ev_integer_Trim N n q m hm
   have hT2:=fun q=>ev_Trim N.toNatGLib d q hd.1 (by have:=hd.2;omega)
   (repeat' (first|(refine CmpP.go (fun hc => ?_) (fun hc => ?_)<;>first|(exfalso;omega)|(conv=>whnf))|(refine LenP.go ?_;conv=>whnf)|(refine AKM.x ?_;conv=>whnf)|(refine CallP.go (hDM _ _) ?_;conv=>whnf)|(refine CallP.go (hG _ _) ?_;conv=>whnf)|(refine CallP.b (h1 _) (fun hf => ?_) (fun hf => ?_)<;>(conv=>whnf))|(refine CallP.go (hT1 _) ?_;conv=>whnf)|(refine CallP.go (hT2 _) ?_;conv=>whnf)))
   ·refine FinP.go ?_ (cl_agg3 _ _ _)
    show _=AV.agg (rQ _ _ _ _ _)
    rw[e1,e2,e3,hg1,Nat.div_one,Nat.div_one]
   ·exact absurd hg1 hf
  ·have sg:Sm 549755813888 (dg g):=hd.low hgd
   have hD1:=fun q q'=>ev_nat_DivMod N.toNatGLib m (dg g) q q' hm.1 sg.1 hm.2 sg.2 (by rw[val_dg];omega)
   have hD2:=fun q q'=>ev_nat_DivMod N.toNatGLib d (dg g) q q' hd.1 sg.1 hd.2 sg.2 (by rw[val_dg];omega)
   rw[val_dg]at hD1 hD2
   (repeat' (first|(refine CmpP.go (fun hc => ?_) (fun hc => ?_)<;>first|(exfalso;omega)|(conv=>whnf))|(refine LenP.go ?_;conv=>whnf)|(refine AKM.x ?_;conv=>whnf)|(refine CallP.go (hDM _ _) ?_;conv=>whnf)|(refine CallP.go (hG _ _) ?_;conv=>whnf)|(refine CallP.b (h1 _) (fun hf => ?_) (fun hf => ?_)<;>(conv=>whnf))|(refine CallP.go (hD1 _ _) ?_;conv=>whnf)|(refine CallP.go (hD2 _ _) ?_;conv=>whnf)))
   ·exact absurd hf hg1
   ·refine FinP.go ?_ (cl_agg3 _ _ _)
    show _=AV.agg (rQ _ _ _ _ _)
    rw[e1,e2,e3,hza]
    have hs:n=decide (zv n m<0):=by
     have:val m≠0:=fun h=>hr0 (by rw[h,Nat.zero_mod])
     cases n
     ·exact sgn_F (by rw[zv_F];omega)
     ·exact sgn_T (by rw[zv_T];omega)
    rw[←hs]
theorem ev_natural (N:RatGLib L) (m:List Nat):Ev L 91 [.sl false (m.map e32)] (.agg [.bool false,.sl false (m.map e32)]):=by
 refine Ev.x N.rational_natural rfl rfl ?_
 (repeat' (refine AKM.x ?_;conv=>whnf))
 exact FinP.go rfl (cl_agg2 _ _)
def RdIs (n:Bool) (m d:List Nat) (n':Bool) (m' d':List Nat) (w:Bool) (k:Nat):Prop:=Sm k m'∧Sm k d'∧val d'≠0∧(w=true→val d'=1)∧qv n m d=mkRat (zv n' m') (val d')
theorem ev_read (N:RatGLib L) (n:Bool) (m d:List Nat) (k:Nat) (hk:1≤k∧k≤549755813888) (hm:Sm k m) (hd:Sm k d) : ∃ n' m' d' w,Ev L 89 [.agg (rQ false false n m d)] (.agg [.bool n',.sl false (m'.map e32),.sl false (d'.map e32),.bool w])∧RdIs n m d n' m' d' w k:=by
 have hcmp:=fun q q'=>ev_nat_Compare N.toNatGLib d [] q q' hd.1 dig_nil (by have:=hd.2;omega) (by simp)
 rw[val_nil]at hcmp
 by_cases h1:d=[1]
 ·subst h1
  refine ⟨n,m,[1],true,?_,hm,hd,by decide,fun _=>rfl,rfl⟩
  refine Ev.x N.rational_read rfl rfl ?_
  have hd:[1][(0:Int).toNat]? = some 1:=rfl
  have hll:([1]:List Nat).length=1:=rfl
  (repeat' (first|(refine CmpP.go (fun hc => ?_) (fun hc => ?_)<;>first|(exfalso;omega)|(conv=>whnf))|(refine LenP.go ?_;conv=>whnf)|(refine RdP.at (by assumption) ?_ rfl ?_;omega;conv=>whnf)|(refine AKM.x ?_;conv=>whnf)))
  exact FinP.go rfl (cl_agg4 _ _ _ _)
 have hne : ∀ x,d[(0:Int).toNat]? = some x→(d.length:Int)=1→(x:Int)≠1:=fun x hx hl h=>by
  obtain ⟨y,rfl⟩:=List.length_eq_one_iff.1 (show d.length=1 by omega)
  simp at hx
  apply h1
  congr 1
  omega
 by_cases h0:val d=0
 ·refine ⟨false,[],[1],true,?_,sm_nil _,sm_one hk.1 (by omega),by decide,fun _=>rfl,by unfold qv;rw[h0,Rat.mkRat_zero,zv_nil,Rat.zero_mkRat]⟩
  have hn:cmpS (val d) (0:Nat)=0:=(cmpS_eq (by omega)).symm
  rw[hn]at hcmp
  refine Ev.x N.rational_read rfl rfl ?_
  have hD:=hd.1
  (repeat' (first|(refine CmpP.go (fun hc => ?_) (fun hc => ?_)<;>first|(exfalso;omega)|(conv=>whnf))|(refine LenP.go ?_;conv=>whnf)|(refine RdP.digi (by assumption) ?_ (fun e he hb => ?_);omega;conv=>whnf)|(refine SnR.e1 rfl ?_;conv=>whnf)|(refine AKM.x ?_;conv=>whnf)|(refine CallP.go (hcmp _ _) ?_;conv=>whnf)))
  all_goals first
   | exact FinP.go rfl (cl_agg4 _ _ _ _)
   | exact FinP.go rfl (cl_agg4 false true [] [1])
   | exact absurd (by assumption) (hne _ he (by assumption))
 ·refine ⟨n,m,d,false,?_,hm,hd,h0,(fun h=>by cases h),rfl⟩
  have hn:cmpS (val d) (0:Nat)=1:=(cmpS_gt (by omega)).symm
  rw[hn]at hcmp
  have hD:=hd.1
  refine Ev.x N.rational_read rfl rfl ?_
  (repeat' (first|(refine CmpP.go (fun hc => ?_) (fun hc => ?_)<;>first|(exfalso;omega)|(conv=>whnf))|(refine LenP.go ?_;conv=>whnf)|(refine RdP.digi (by assumption) ?_ (fun e he hb => ?_);omega;conv=>whnf)|(refine AKM.x ?_;conv=>whnf)|(refine CallP.go (hcmp _ _) ?_;conv=>whnf)))
  all_goals first
   | exact FinP.go rfl (cl_agg4 _ _ _ _)
   | exact FinP.go rfl (cl_agg4 false true [] [1])
   | exact absurd (by assumption) (hne _ he (by assumption))
theorem ev_rational_Trim (N:RatGLib L) (n q1 q2:Bool) (m d:List Nat) (hm:Sm 549755813888 m) (hd:Sm 549755813888 d):Ev L 95 [.agg (rQ q1 q2 n m d)] (.agg (eQ (qv n m d))):=by
 obtain ⟨n',m',d',w,hr,s1,s2,s3,s4,s5⟩:=ev_read N n m d 549755813888 (by omega) hm hd
 have hl:=fun q1 q2=>ev_lowest N n' q1 q2 m' d' s1 s2 s3
 rw[s5]
 unfold qv at hl
 refine Ev.x N.rational_Trim rfl rfl ?_
 (repeat' (first|(refine FlP.n4 ?_;conv=>whnf)|(refine AKM.x ?_;conv=>whnf)|(refine CallP.go (hr) ?_;conv=>whnf)|(refine CallP.go (hl _ _) ?_;conv=>whnf)))
 exact FinP.go rfl (cl_eQ _)
theorem ev_rational_Sign (N:RatGLib L) (n q1 q2:Bool) (m d:List Nat) (hm:Sm 549755813888 m) (hd:Sm 549755813888 d):Ev L 97 [.agg (rQ q1 q2 n m d)] (.int .i64 (sgn (qv n m d).num)):=by
 obtain ⟨n',m',d',w,hr,s1,s2,s3,s4,s5⟩:=ev_read N n m d 549755813888 (by omega) hm hd
 have hl:=fun q=>ev_integer_Sign N n' q m' s1
 rw[s5,mk_sgn s3]
 refine Ev.x N.rational_Sign rfl rfl ?_
 (repeat' (first|(refine FlP.n4 ?_;conv=>whnf)|(refine AKM.x ?_;conv=>whnf)|(refine CallP.go (hr) ?_;conv=>whnf)|(refine CallP.go (hl _) ?_;conv=>whnf)))
 exact FinP.i rfl
theorem agg_whole (z:Int):AV.agg [.bool (decide (z<0)),.sl false ((dg z.natAbs).map e32),.sl false [[.int .u32 1]]] = .agg (eQ (z:Rat)):=by
 show _=AV.agg (rQ _ _ _ _ _)
 rw[Rat.num_intCast,Rat.den_intCast,dg_one];rfl
theorem ev_rational_Of (N:RatGLib L) (z:Int) (hz : -9223372036854775808≤z∧z≤9223372036854775807):Ev L 96 [.int .i64 z] (.agg (eQ (z:Rat))):=by
 have h1:=ev_integer_Of N z hz
 refine Ev.x N.rational_Of rfl rfl ?_
 (repeat' (first|(refine AKM.x ?_;conv=>whnf)|(refine CallP.go (h1) ?_;conv=>whnf)))
 refine CalP.walkC 1000 N.rational_whole rfl rfl ?_
 (repeat' (refine AKM.x ?_;conv=>whnf))
 refine ⟨rfl,?_⟩
 (conv=>whnf)
 (repeat' (refine SnR.e1 rfl ?_;conv=>whnf))
 exact FinP.go (agg_whole z) (cl_eQ _)
theorem sm_zmul {k l:Nat} {n1 n2:Bool} {a b:List Nat} (ha:Sm k a) (hb:Sm l b):Sm (k+l) (dg (zv n1 a*zv n2 b).natAbs):=ha.mul hb (by rw[Int.natAbs_mul,zv_abs,zv_abs])
theorem sm_zadd {k:Nat} {x y:Int} (ha:Sm k (dg x.natAbs)) (hb:Sm k (dg y.natAbs)):Sm (k+1) (dg (x+y).natAbs):=ha.add hb (by rw[val_dg,val_dg];omega)
theorem ev_rational_Add (N:RatGLib L) (k:Nat) (hk:1≤k∧k≤68719476736) (n1 n2 q1 q2 q3 q4:Bool) (m1 d1 m2 d2:List Nat) (hm1:Sm k m1) (hd1:Sm k d1) (hm2:Sm k m2) (hd2:Sm k d2) :
  Ev L 98 [.agg (rQ q1 q2 n1 m1 d1),.agg (rQ q3 q4 n2 m2 d2)] (.agg (eQ (qv n1 m1 d1+qv n2 m2 d2))):=by
 obtain ⟨a1,a2,a3,w1,hr1,s1,s2,s3,s4,s5⟩:=ev_read N n1 m1 d1 k (by omega) hm1 hd1
 obtain ⟨b1,b2,b3,w2,hr2,t1,t2,t3,t4,t5⟩:=ev_read N n2 m2 d2 k (by omega) hm2 hd2
 rw[s5,t5]
 have hA:=fun q q'=>ev_integer_Add N a1 b1 q q' a2 b2 (s1.le (by omega)) (t1.le (by omega))
 have hsum:Sm (k+1) (dg (zv a1 a2+zv b1 b2).natAbs):=sm_zadd (by rw[zv_abs];exact s1.nrm) (by rw[zv_abs];exact t1.nrm)
 by_cases hw:w1=true∧w2=true
 ·obtain ⟨rfl,rfl⟩:=hw
  rw[s4 rfl,t4 rfl,mk_add_same (by omega),mk_one]
  generalize zv a1 a2+zv b1 b2=z at *
  refine Ev.x N.rational_Add rfl rfl ?_
  (repeat' (first|(refine FlP.n4 ?_;conv=>whnf)|(refine AKM.x ?_;conv=>whnf)|(refine CallP.go (hr1) ?_;conv=>whnf)|(refine CallP.go (hr2) ?_;conv=>whnf)|(refine CallP.go (hA _ _) ?_;conv=>whnf)))
  refine CalP.walkC 1000 N.rational_whole rfl rfl ?_
  (repeat' (refine AKM.x ?_;conv=>whnf))
  refine ⟨rfl,?_⟩
  (conv=>whnf)
  (repeat' (refine SnR.e1 rfl ?_;conv=>whnf))
  exact FinP.go (agg_whole z) (cl_eQ _)
 ·have hcmp:=fun q q'=>ev_nat_Compare N.toNatGLib a3 b3 q q' s2.1 t2.1 (by have:=s2.2;omega) (by have:=t2.2;omega)
  by_cases hde:val a3=val b3
  ·have hn:cmpS (val a3) (val b3)=0:=(cmpS_eq (by omega)).symm
   rw[hn]at hcmp
   rw[←hde,mk_add_same s3]
   generalize zv a1 a2+zv b1 b2=z at *
   have hl:=fun q1 q2=>ev_lowest N (decide (z<0)) q1 q2 (dg z.natAbs) a3 (hsum.le (by omega)) (s2.le (by omega)) s3
   unfold qv at hl
   rw[zv_of]at hl
   refine Ev.x N.rational_Add rfl rfl ?_
   cases w1<;>cases w2
   ·(repeat' (first|(refine CmpP.go (fun hc => ?_) (fun hc => ?_)<;>first|(exfalso;omega)|(conv=>whnf))|(refine FlP.n4 ?_;conv=>whnf)|(refine AKM.x ?_;conv=>whnf)|(refine CallP.go (hr1) ?_;conv=>whnf)|(refine CallP.go (hr2) ?_;conv=>whnf)|(refine CallP.go (hA _ _) ?_;conv=>whnf)|(refine CallP.go (hcmp _ _) ?_;conv=>whnf)|(refine CallP.go (hl _ _) ?_;conv=>whnf)))
    exact FinP.go rfl (cl_eQ _)
   ·(repeat' (first|(refine CmpP.go (fun hc => ?_) (fun hc => ?_)<;>first|(exfalso;omega)|(conv=>whnf))|(refine FlP.n4 ?_;conv=>whnf)|(refine AKM.x ?_;conv=>whnf)|(refine CallP.go (hr1) ?_;conv=>whnf)|(refine CallP.go (hr2) ?_;conv=>whnf)|(refine CallP.go (hA _ _) ?_;conv=>whnf)|(refine CallP.go (hcmp _ _) ?_;conv=>whnf)|(refine CallP.go (hl _ _) ?_;conv=>whnf)))
    exact FinP.go rfl (cl_eQ _)
   ·(repeat' (first|(refine CmpP.go (fun hc => ?_) (fun hc => ?_)<;>first|(exfalso;omega)|(conv=>whnf))|(refine FlP.n4 ?_;conv=>whnf)|(refine AKM.x ?_;conv=>whnf)|(refine CallP.go (hr1) ?_;conv=>whnf)|(refine CallP.go (hr2) ?_;conv=>whnf)|(refine CallP.go (hA _ _) ?_;conv=>whnf)|(refine CallP.go (hcmp _ _) ?_;conv=>whnf)|(refine CallP.go (hl _ _) ?_;conv=>whnf)))
    exact FinP.go rfl (cl_eQ _)
   ·exact absurd ⟨rfl,rfl⟩ hw
  ·have hn:cmpS (val a3) (val b3)≠0:=by unfold cmpS;split<;>(try split)<;>omega
   generalize cmpS (val a3) (val b3)=cm at *
   have hM1:=fun q q'=>ev_integer_Mul N a1 false q q' a2 b3 s1.1 t2.1 (by have:=s1.2;have:=t2.2;omega)
   have hM2:=fun q q'=>ev_integer_Mul N b1 false q q' b2 a3 t1.1 s2.1 (by have:=t1.2;have:=s2.2;omega)
   have hM3:=fun q q'=>ev_nat_Mul N.toNatGLib a3 b3 q q' s2.1 t2.1 (by have:=s2.2;have:=t2.2;omega)
   have hna:=ev_natural N a3
   have hnb:=ev_natural N b3
   have g1:Sm (k+k) (dg (zv a1 a2*zv false b3).natAbs):=sm_zmul s1 t2
   have g2:Sm (k+k) (dg (zv b1 b2*zv false a3).natAbs):=sm_zmul t1 s2
   have g3:=sm_zadd g1 g2
   have g4:Sm (k+k) (dg (val a3*val b3)):=s2.mul t2 rfl
   rw[mk_add s3 t3,←zv_F b3,←zv_F a3]
   have hden:val a3*val b3≠0:=Nat.mul_ne_zero s3 t3
   generalize zv a1 a2*zv false b3=x at *
   generalize zv b1 b2*zv false a3=y at *
   generalize val a3*val b3=D at *
   have hA2:=fun q q'=>ev_integer_Add N (decide (x<0)) (decide (y<0)) q q' (dg x.natAbs) (dg y.natAbs) (g1.le (by omega)) (g2.le (by omega))
   rw[zv_of,zv_of]at hA2
   generalize x+y=z at *
   have hl:=fun q1 q2=>ev_lowest N (decide (z<0)) q1 q2 (dg z.natAbs) (dg D) (g3.le (by omega)) (g4.le (by omega)) (by rw[val_dg];exact hden)
   unfold qv at hl
   rw[zv_of,val_dg]at hl
   refine Ev.x N.rational_Add rfl rfl ?_
   cases w1<;>cases w2
   ·(repeat' (first|(refine CmpP.go (fun hc => ?_) (fun hc => ?_)<;>first|(exfalso;omega)|(conv=>whnf))|(refine FlP.n4 ?_;conv=>whnf)|(refine FlP.n2 ?_;conv=>whnf)|(refine AKM.x ?_;conv=>whnf)|(refine CallP.go (hr1) ?_;conv=>whnf)|(refine CallP.go (hr2) ?_;conv=>whnf)|(refine CallP.go (hcmp _ _) ?_;conv=>whnf)|(refine CallP.go (hna) ?_;conv=>whnf)|(refine CallP.go (hnb) ?_;conv=>whnf)|(refine CallP.go (hM1 _ _) ?_;conv=>whnf)|(refine CallP.go (hM2 _ _) ?_;conv=>whnf)|(refine CallP.go (hA2 _ _) ?_;conv=>whnf)|(refine CallP.go (hM3 _ _) ?_;conv=>whnf)|(refine CallP.go (hl _ _) ?_;conv=>whnf)))
    exact FinP.go rfl (cl_eQ _)
   ·(repeat' (first|(refine CmpP.go (fun hc => ?_) (fun hc => ?_)<;>first|(exfalso;omega)|(conv=>whnf))|(refine FlP.n4 ?_;conv=>whnf)|(refine FlP.n2 ?_;conv=>whnf)|(refine AKM.x ?_;conv=>whnf)|(refine CallP.go (hr1) ?_;conv=>whnf)|(refine CallP.go (hr2) ?_;conv=>whnf)|(refine CallP.go (hcmp _ _) ?_;conv=>whnf)|(refine CallP.go (hna) ?_;conv=>whnf)|(refine CallP.go (hnb) ?_;conv=>whnf)|(refine CallP.go (hM1 _ _) ?_;conv=>whnf)|(refine CallP.go (hM2 _ _) ?_;conv=>whnf)|(refine CallP.go (hA2 _ _) ?_;conv=>whnf)|(refine CallP.go (hM3 _ _) ?_;conv=>whnf)|(refine CallP.go (hl _ _) ?_;conv=>whnf)))
    exact FinP.go rfl (cl_eQ _)
   ·(repeat' (first|(refine CmpP.go (fun hc => ?_) (fun hc => ?_)<;>first|(exfalso;omega)|(conv=>whnf))|(refine FlP.n4 ?_;conv=>whnf)|(refine FlP.n2 ?_;conv=>whnf)|(refine AKM.x ?_;conv=>whnf)|(refine CallP.go (hr1) ?_;conv=>whnf)|(refine CallP.go (hr2) ?_;conv=>whnf)|(refine CallP.go (hcmp _ _) ?_;conv=>whnf)|(refine CallP.go (hna) ?_;conv=>whnf)|(refine CallP.go (hnb) ?_;conv=>whnf)|(refine CallP.go (hM1 _ _) ?_;conv=>whnf)|(refine CallP.go (hM2 _ _) ?_;conv=>whnf)|(refine CallP.go (hA2 _ _) ?_;conv=>whnf)|(refine CallP.go (hM3 _ _) ?_;conv=>whnf)|(refine CallP.go (hl _ _) ?_;conv=>whnf)))
    exact FinP.go rfl (cl_eQ _)
   ·exact absurd ⟨rfl,rfl⟩ hw
theorem ev_rational_Mul (N:RatGLib L) (k:Nat) (hk:1≤k∧k≤68719476736) (n1 n2 q1 q2 q3 q4:Bool) (m1 d1 m2 d2:List Nat) (hm1:Sm k m1) (hd1:Sm k d1) (hm2:Sm k m2) (hd2:Sm k d2) :
  Ev L 99 [.agg (rQ q1 q2 n1 m1 d1),.agg (rQ q3 q4 n2 m2 d2)] (.agg (eQ (qv n1 m1 d1*qv n2 m2 d2))):=by
 obtain ⟨a1,a2,a3,w1,hr1,s1,s2,s3,s4,s5⟩:=ev_read N n1 m1 d1 k (by omega) hm1 hd1
 obtain ⟨b1,b2,b3,w2,hr2,t1,t2,t3,t4,t5⟩:=ev_read N n2 m2 d2 k (by omega) hm2 hd2
 rw[s5,t5,mk_mul]
 have hM1:=fun q q'=>ev_integer_Mul N a1 b1 q q' a2 b2 s1.1 t1.1 (by have:=s1.2;have:=t1.2;omega)
 have hM3:=fun q q'=>ev_nat_Mul N.toNatGLib a3 b3 q q' s2.1 t2.1 (by have:=s2.2;have:=t2.2;omega)
 have g1:Sm (k+k) (dg (zv a1 a2*zv b1 b2).natAbs):=sm_zmul s1 t1
 have g4:Sm (k+k) (dg (val a3*val b3)):=s2.mul t2 rfl
 have hden:val a3*val b3≠0:=Nat.mul_ne_zero s3 t3
 generalize zv a1 a2*zv b1 b2=z at *
 by_cases hw:w1=true∧w2=true
 ·obtain ⟨rfl,rfl⟩:=hw
  rw[s4 rfl,t4 rfl,Nat.one_mul,mk_one]
  refine Ev.x N.rational_Mul rfl rfl ?_
  (repeat' (first|(refine FlP.n4 ?_;conv=>whnf)|(refine AKM.x ?_;conv=>whnf)|(refine CallP.go (hr1) ?_;conv=>whnf)|(refine CallP.go (hr2) ?_;conv=>whnf)|(refine CallP.go (hM1 _ _) ?_;conv=>whnf)))
  refine CalP.walkC 1000 N.rational_whole rfl rfl ?_
  (repeat' (refine AKM.x ?_;conv=>whnf))
  refine ⟨rfl,?_⟩
  (conv=>whnf)
  (repeat' (refine SnR.e1 rfl ?_;conv=>whnf))
  exact FinP.go (agg_whole z) (cl_eQ _)
 ·generalize val a3*val b3=D at *
  have hl:=fun q1 q2=>ev_lowest N (decide (z<0)) q1 q2 (dg z.natAbs) (dg D) (g1.le (by omega)) (g4.le (by omega)) (by rw[val_dg];exact hden)
  unfold qv at hl
  rw[zv_of,val_dg]at hl
  refine Ev.x N.rational_Mul rfl rfl ?_
  cases w1<;>cases w2
  ·(repeat' (first|(refine FlP.n4 ?_;conv=>whnf)|(refine AKM.x ?_;conv=>whnf)|(refine CallP.go (hr1) ?_;conv=>whnf)|(refine CallP.go (hr2) ?_;conv=>whnf)|(refine CallP.go (hM1 _ _) ?_;conv=>whnf)|(refine CallP.go (hM3 _ _) ?_;conv=>whnf)|(refine CallP.go (hl _ _) ?_;conv=>whnf)))
   exact FinP.go rfl (cl_eQ _)
  ·(repeat' (first|(refine FlP.n4 ?_;conv=>whnf)|(refine AKM.x ?_;conv=>whnf)|(refine CallP.go (hr1) ?_;conv=>whnf)|(refine CallP.go (hr2) ?_;conv=>whnf)|(refine CallP.go (hM1 _ _) ?_;conv=>whnf)|(refine CallP.go (hM3 _ _) ?_;conv=>whnf)|(refine CallP.go (hl _ _) ?_;conv=>whnf)))
   exact FinP.go rfl (cl_eQ _)
  ·(repeat' (first|(refine FlP.n4 ?_;conv=>whnf)|(refine AKM.x ?_;conv=>whnf)|(refine CallP.go (hr1) ?_;conv=>whnf)|(refine CallP.go (hr2) ?_;conv=>whnf)|(refine CallP.go (hM1 _ _) ?_;conv=>whnf)|(refine CallP.go (hM3 _ _) ?_;conv=>whnf)|(refine CallP.go (hl _ _) ?_;conv=>whnf)))
   exact FinP.go rfl (cl_eQ _)
  ·exact absurd ⟨rfl,rfl⟩ hw
theorem cl_eQt (x:Rat) (e:Int):Clean (.tup [.agg (eQ x),.int .i64 e]):=by
 simp only[Clean,CleanL,and_true,true_and]
 exact ⟨cl_dig _,cl_dig _⟩
theorem ev_rational_Div (N:RatGLib L) (k:Nat) (hk:1≤k∧k≤68719476736) (n1 n2 q1 q2 q3 q4:Bool) (m1 d1 m2 d2:List Nat) (hm1:Sm k m1) (hd1:Sm k d1) (hm2:Sm k m2) (hd2:Sm k d2) (h0:qv n2 m2 d2≠0) :
  Ev L 100 [.agg (rQ q1 q2 n1 m1 d1),.agg (rQ q3 q4 n2 m2 d2)] (.tup [.agg (eQ (qv n1 m1 d1/qv n2 m2 d2)),.int .i64 0]):=by
 obtain ⟨a1,a2,a3,w1,hr1,s1,s2,s3,s4,s5⟩:=ev_read N n1 m1 d1 k (by omega) hm1 hd1
 obtain ⟨b1,b2,b3,w2,hr2,t1,t2,t3,t4,t5⟩:=ev_read N n2 m2 d2 k (by omega) hm2 hd2
 rw[t5]at h0
 rw[s5,t5]
 have hb0:zv b1 b2≠0:=fun h=>h0 ((mk_num_zero t3).2 h)
 rw[mk_div s3 t3 hb0]
 have hS:=fun q=>ev_integer_Sign N b1 q b2 (t1.le (by omega))
 have hsg:sgn (zv b1 b2)≠0:=by unfold sgn;split<;>(try split)<;>omega
 have hM1:=fun q q'=>ev_integer_Mul N a1 false q q' a2 b3 s1.1 t2.1 (by have:=s1.2;have:=t2.2;omega)
 have hM2:=fun q q'=>ev_integer_Mul N false b1 q q' a3 b2 s2.1 t1.1 (by have:=t1.2;have:=s2.2;omega)
 have hna:=ev_natural N a3
 have hnb:=ev_natural N b3
 have g1:Sm (k+k) (dg (zv a1 a2*zv false b3).natAbs):=sm_zmul s1 t2
 have g2:Sm (k+k) (dg (zv false a3*zv b1 b2).natAbs):=sm_zmul s2 t1
 have hd:(zv false a3*zv b1 b2).natAbs=val a3*(zv b1 b2).natAbs:=by rw[Int.natAbs_mul,zv_abs]
 have hds:(zv false a3*zv b1 b2).sign=(zv b1 b2).sign:=by
  rw[Int.sign_mul,zv_F,Int.sign_eq_one_of_pos (by omega),Int.one_mul]
 have hy0:zv false a3*zv b1 b2≠0:=by
  intro h
  rw[h]at hds
  exact hb0 (by simpa using hds.symm)
 rw[←hd,←hds,←zv_F b3]
 generalize zv a1 a2*zv false b3=x at *
 generalize zv false a3*zv b1 b2=y at *
 generalize sgn (zv b1 b2)=sg at *
 have hl:=fun q1 q2=>ev_lowest N (decide (x<0) != decide (y<0)) q1 q2 (dg x.natAbs) (dg y.natAbs) (g1.le (by omega)) (g2.le (by omega)) (by rw[val_dg];omega)
 unfold qv at hl
 rw[zv_quot hy0,val_dg]at hl
 refine Ev.x N.rational_Div rfl rfl ?_
 (repeat' (first|(refine CmpP.go (fun hc => ?_) (fun hc => ?_)<;>first|(exfalso;omega)|(conv=>whnf))|(refine FlP.n4 ?_;conv=>whnf)|(refine FlP.n2 ?_;conv=>whnf)|(refine AKM.x ?_;conv=>whnf)|(refine CallP.go (hr1) ?_;conv=>whnf)|(refine CallP.go (hr2) ?_;conv=>whnf)|(refine CallP.go (hS _) ?_;conv=>whnf)|(refine CallP.go (hna) ?_;conv=>whnf)|(refine CallP.go (hnb) ?_;conv=>whnf)|(refine CallP.go (hM1 _ _) ?_;conv=>whnf)|(refine CallP.go (hM2 _ _) ?_;conv=>whnf)))
 refine CalP.walkC 1000 N.rational_quotient rfl rfl ?_
 (repeat' (refine AKM.x ?_;conv=>whnf))
 generalize decide (x<0)=p at *
 generalize decide (y<0)=r at *
 cases p<;>cases r
 all_goals
  (conv=>whnf)
  refine ⟨rfl,?_⟩
  (conv=>whnf)
  (repeat' (refine CallP.go (hl _ _) ?_;conv=>whnf))
  exact FinP.go rfl (cl_eQt _ _)
end Go.Eng

namespace Go.Eng
open F
variable {L:Lib}
theorem Bt.sm {k:Nat} {x:Rat} (h:Bt k x) (hk:k<2199023255552):Sm 68719476736 (dg x.num.natAbs)∧Sm 68719476736 (dg x.den):=h.dig (by omega)
theorem ev_addQ (N:RatGLib L) {x y:Rat} {k l:Nat} (hx:Bt k x) (hy:Bt l y) (hk:k<2199023255552) (hl:l<2199023255552):Ev L 98 [.agg (eQ x),.agg (eQ y)] (.agg (eQ (x+y))):=by
 have:=ev_rational_Add N 68719476736 (by omega) (decide (x.num<0)) (decide (y.num<0)) false false false false _ _ _ _ (hx.sm hk).1 (hx.sm hk).2 (hy.sm hl).1 (hy.sm hl).2
 rw[qv_of,qv_of]at this
 exact this
theorem ev_mulQ (N:RatGLib L) {x y:Rat} {k l:Nat} (hx:Bt k x) (hy:Bt l y) (hk:k<2199023255552) (hl:l<2199023255552):Ev L 99 [.agg (eQ x),.agg (eQ y)] (.agg (eQ (x*y))):=by
 have:=ev_rational_Mul N 68719476736 (by omega) (decide (x.num<0)) (decide (y.num<0)) false false false false _ _ _ _ (hx.sm hk).1 (hx.sm hk).2 (hy.sm hl).1 (hy.sm hl).2
 rw[qv_of,qv_of]at this
 exact this
theorem ev_divQ (N:RatGLib L) {x y:Rat} {k l:Nat} (hx:Bt k x) (hy:Bt l y) (hk:k<2199023255552) (hl:l<2199023255552) (h0:y≠0):Ev L 100 [.agg (eQ x),.agg (eQ y)] (.tup [.agg (eQ (x/y)),.int .i64 0]):=by
 have:=ev_rational_Div N 68719476736 (by omega) (decide (x.num<0)) (decide (y.num<0)) false false false false _ _ _ _ (hx.sm hk).1 (hx.sm hk).2 (hy.sm hl).1 (hy.sm hl).2 (by rw[qv_of];exact h0)
 rw[qv_of,qv_of]at this
 exact this
theorem ev_trimQ (N:RatGLib L) {x:Rat} {k:Nat} (hx:Bt k x) (hk:k<2199023255552):Ev L 95 [.agg (eQ x)] (.agg (eQ x)):=by
 have:=ev_rational_Trim N (decide (x.num<0)) false false _ _ ((hx.sm hk).1.le (by omega)) ((hx.sm hk).2.le (by omega))
 rw[qv_of]at this
 exact this
theorem ev_signQ (N:RatGLib L) {x:Rat} {k:Nat} (hx:Bt k x) (hk:k<2199023255552):Ev L 97 [.agg (eQ x)] (.int .i64 (sgn x.num)):=by
 have:=ev_rational_Sign N (decide (x.num<0)) false false _ _ ((hx.sm hk).1.le (by omega)) ((hx.sm hk).2.le (by omega))
 rw[qv_of]at this
 exact this
theorem sgn_num {x:Rat}:sgn x.num=0↔x=0:=by
 rw[←Rat.num_eq_zero]
 unfold sgn
 split
 ·omega
 ·split<;>omega
end Go.Eng

namespace Go.Eng
open F
attribute [local irreducible] AKM CmpP Req OpP UnP ConvP RdP LdR StR MkR LenP AppR AppN CpyR RowP SnR Bds SlS CallP CalP FinP pw LdM GetM SetM PutM MkM AppM SnM FlP CallR
set_option maxHeartbeats 4000000
variable {L:Lib}
theorem qv_not (n:Bool) (m d:List Nat):qv (!n) m d = -(qv n m d):=by
 unfold qv
 have h:zv (!n) m = -(zv n m):=by cases n<;>simp [zv]
 rw[h,Rat.neg_mkRat]
theorem cl_rQ (n:Bool) (m d:List Nat):Clean (.agg (rQ false false n m d)):=by
 simp only[Clean,CleanL,and_true,true_and]
 exact ⟨cl_dig _,cl_dig _⟩
theorem ev_flip (N:RatHLib L) (n:Bool) (m d:List Nat):Ev L 149 [.agg (rQ false false n m d)] (.agg (rQ false false (!n) m d)):=by
 refine Ev.x N.rational_flip rfl rfl ?_
 cases n
 all_goals
  (repeat' (refine AKM.x ?_;conv=>whnf))
  exact FinP.go rfl (cl_rQ _ _ _)
theorem ev_subQ (N:RatHLib L) {x y:Rat} {k l:Nat} (hx:Bt k x) (hy:Bt l y) (hk:k<2199023255552) (hl:l<2199023255552):Ev L 150 [.agg (eQ x),.agg (eQ y)] (.agg (eQ (x-y))):=by
 have hF:=ev_flip N (decide (y.num<0)) (dg y.num.natAbs) (dg y.den)
 have hA:=fun q3 q4=>ev_rational_Add N.toRatGLib 68719476736 (by omega) (decide (x.num<0)) (!decide (y.num<0)) false false q3 q4 _ _ _ _ (hx.sm hk).1 (hx.sm hk).2 (hy.sm hl).1 (hy.sm hl).2
 rw[qv_not,qv_of,qv_of,←Rat.sub_eq_add_neg]at hA
 refine Ev.x N.rational_Sub rfl rfl ?_
 (repeat' (first|(refine FlP.n3 ?_;conv=>whnf)|(refine AKM.x ?_;conv=>whnf)|(refine CallP.go (hF) ?_;conv=>whnf)|(refine CallP.go (hA _ _) ?_;conv=>whnf)))
 exact FinP.go rfl (cl_eQ _)
end Go.Eng

namespace Go.Eng
open F
attribute [local irreducible] AKM CmpP Req OpP UnP ConvP RdP LdR StR MkR LenP AppR AppN CpyR RowP SnR Bds SlS CallP CalP FinP pw LdM GetM SetM PutM MkM AppM SnM FlP CallR
set_option maxHeartbeats 8000000
variable {L:Lib}
end Go.Eng

namespace Go.Eng
open F
attribute [local irreducible] AKM CmpP Req OpP UnP ConvP RdP LdR StR MkR LenP AppR AppN CpyR RowP SnR Bds SlS CallP CalP FinP pw LdM GetM SetM PutM MkM AppM SnM FlP CallR
set_option maxHeartbeats 8000000
variable {L:Lib}
end Go.Eng

namespace Go.Eng
open F
attribute [local irreducible] AKM CmpP Req OpP UnP ConvP RdP LdR StR MkR LenP AppR AppN CpyR RowP SnR Bds SlS CallP CalP FinP pw LdM GetM SetM PutM MkM AppM SnM FlP CallR
set_option maxHeartbeats 8000000
variable {L:Lib}
theorem ev_negQ (N:StGLib L) {x:Rat} {k:Nat} (hx:Bt k x) (hk:k<2199023255552):Ev L 199 [.agg (eQ x)] (.agg (eQ (-x))):=by
 have hF:=ev_flip N.toRatHLib (decide (x.num<0)) (dg x.num.natAbs) (dg x.den)
 have hT:=fun q1 q2=>ev_rational_Trim N.toRatGLib (!decide (x.num<0)) q1 q2 _ _ ((hx.sm hk).1.le (by omega)) ((hx.sm hk).2.le (by omega))
 rw[qv_not,qv_of]at hT
 refine Ev.x N.rational_Neg rfl rfl ?_
 (repeat' (first|(refine FlP.n3 ?_;conv=>whnf)|(refine AKM.x ?_;conv=>whnf)|(refine CallP.go (hF) ?_;conv=>whnf)|(refine CallP.go (hT _ _) ?_;conv=>whnf)))
 exact FinP.go rfl (cl_eQ _)
end Go.Eng

namespace Go.Eng
open F
attribute [local irreducible] AKM CmpP Req OpP UnP ConvP RdP LdR StR MkR LenP AppR AppN CpyR RowP SnR Bds SlS CallP CalP FinP pw LdM GetM SetM PutM MkM AppM SnM FlP CallR
set_option maxHeartbeats 1000000
variable {L:Lib}
def InI (n:Int):Prop := -9223372036854775808≤n∧n≤9223372036854775807
structure Wd where
 b:Int
 f:Int
 r:Int
 o:Int
def WV (w:Wd):Prop:=4≤w.b∧w.b≤24∧0≤w.f∧w.f<w.b∧1≤w.r∧w.r≤3∧1≤w.o∧w.o≤2
instance (w : Wd) : Decidable (WV w) := by unfold WV; infer_instance
variable (w:Wd)
def lowS:Int:=if WV w then -pw (w.b-1) else 0
def highS:Int:=if WV w then pw (w.b-1)-1 else 0
def FT (v:Int):Prop:=WV w∧lowS w≤v∧v≤highS w
instance (v : Int) : Decidable (FT w v) := by unfold FT; infer_instance
end Go.Eng

namespace Go.Eng
open F
attribute [local irreducible] AKM CmpP Req OpP UnP ConvP RdP LdR StR MkR LenP AppR AppN CpyR RowP SnR Bds SlS CallP CalP FinP pw LdM GetM SetM PutM MkM AppM SnM FlP CallR
set_option maxHeartbeats 1000000
variable {L:Lib}
structure Nd where
 q:Bool
 ts:List (Int × Int)
structure Nt where
 d:Wd
 c:Wd
 s:Int
 qn:Bool
 nodes:List Nd
 qx:Bool
 next:List Int
 out:Int
variable (n:Nt)
end Go.Eng

namespace Go.Eng
open F
attribute [local irreducible] AKM CmpP Req OpP UnP ConvP RdP LdR StR MkR LenP AppR AppN CpyR RowP SnR Bds SlS CallP CalP FinP pw LdM GetM SetM PutM MkM AppM SnM FlP CallR
set_option maxHeartbeats 1000000
variable {L:Lib}
end Go.Eng

namespace Go.Eng
open F
attribute [local irreducible] AKM CmpP Req OpP UnP ConvP RdP LdR StR MkR LenP AppR AppN CpyR RowP SnR Bds SlS CallP CalP FinP pw LdM GetM SetM PutM MkM AppM SnM FlP CallR
set_option maxHeartbeats 1000000
variable {L:Lib} (n:Nt)
end Go.Eng

namespace Go.Eng
open F
attribute [local irreducible] AKM CmpP Req OpP UnP ConvP RdP LdR StR MkR LenP AppR AppN CpyR RowP SnR Bds SlS CallP CalP FinP pw LdM GetM SetM PutM MkM AppM SnM FlP CallR
set_option maxHeartbeats 4000000
variable {L:Lib}
end Go.Eng

namespace Go.Eng
def sumQ (vals:List Rat):List (Int × Int)→Rat
 | []=>0
 | t::ts=>(t.2:Rat)*vals.getD t.1.toNat 0+sumQ vals ts
def exS (u:Rat) (ex:Int):Nat→List Rat→List (List (Int × Int))→List Rat
 | _,vals,[]=>vals
 | k,vals,ts::r=>exS u ex (k+1) (vals++[sumQ vals ts/u+(if (k:Int)=ex then 1 else 0)]) r
theorem Bs.getD {k:Nat} {l:List Rat} (h:Bs k l) (i:Nat):Bt k (l.getD i 0):=by
 rw[List.getD_eq_getElem?_getD]
 cases e:l[i]? with
 | none=>exact Bt.zero k
 | some x=>exact h.at e
theorem Bs.sum {k j:Nat} {vals:List Rat} (hv:Bs k vals) : ∀ (ts:List (Int × Int)),(∀ t∈ts,Bt j ((t.2:Int):Rat))→Bt (ts.length*(j+k+1)) (sumQ vals ts)
 | [],_=>Bt.zero _
 | t::ts,h=>by
  have h1:=(h t (by simp)).mul (hv.getD t.1.toNat)
  have h2:=Bs.sum hv ts (fun u hu=>h u (by simp [hu]))
  refine (h1.add h2).le ?_
  rw[List.length_cons,Nat.succ_mul];omega
def LinV (C:List (List Rat)) (z vals:List Rat):Prop := ∀ m,m<vals.length→vals.getD m 0=dotQ (C.map fun c=>c.getD m 0) z
theorem dotQ_smul (x:Rat) : ∀ (a z:List Rat),dotQ (a.map fun c=>x*c) z=x*dotQ a z
 | [],z=>by cases z<;>simp [dotQ]
 | p::a,[]=>by simp [dotQ]
 | p::a,q::z=>by
  simp only[List.map_cons,dotQ]
  rw[dotQ_smul x a z];grind
theorem dotQ_mapadd {α:Type} (f g:α→Rat) : ∀ (a:List α) (z:List Rat),dotQ (a.map fun c=>f c+g c) z=dotQ (a.map f) z+dotQ (a.map g) z
 | [],z=>by cases z<;>(simp only[List.map_nil,dotQ];grind)
 | p::a,[]=>by simp only[List.map_cons,dotQ];grind
 | p::a,q::z=>by
  simp only[List.map_cons,dotQ]
  rw[dotQ_mapadd f g a z];grind
theorem dotQ_zero {α:Type} : ∀ (a:List α) (z:List Rat),dotQ (a.map fun _=>(0:Rat)) z=0
 | [],z=>by cases z<;>rfl
 | p::a,[]=>rfl
 | p::a,q::z=>by
  simp only[List.map_cons,dotQ]
  rw[dotQ_zero a z];grind
theorem LinV.sum {C:List (List Rat)} {z vals:List Rat} (h:LinV C z vals) : ∀ (ts:List (Int × Int)),(∀ t∈ts,t.1.toNat<vals.length)→sumQ vals ts=dotQ (C.map fun c=>sumQ c ts) z
 | [],_=>(dotQ_zero C z).symm
 | t::ts,ht=>by
  simp only[sumQ]
  rw[dotQ_mapadd (fun c=>(t.2:Rat)*c.getD t.1.toNat 0) (fun c=>sumQ c ts),←LinV.sum h ts (fun u hu=>ht u (by simp [hu])),h _ (ht t (by simp))]
  have:=dotQ_smul (t.2:Rat) (C.map fun c=>c.getD t.1.toNat 0) z
  rw[List.map_map]at this
  rw[←this];rfl
theorem getD_snoc_lt {l:List Rat} {x:Rat} {m:Nat} (h:m<l.length):(l++[x]).getD m 0=l.getD m 0:=by
 rw[List.getD_eq_getElem?_getD,List.getD_eq_getElem?_getD,List.getElem?_append_left h]
theorem getD_snoc_eq {l:List Rat} {x:Rat} {m:Nat} (h:m=l.length):(l++[x]).getD m 0=x:=by
 subst h
 rw[List.getD_eq_getElem?_getD,List.getElem?_append_right (Nat.le_refl _)];simp
theorem LinV.all {u:Rat} (hu:u≠0) {z:List Rat} : ∀ (l:List (List (Int × Int))) (k:Nat) (C:List (List Rat)) (vals:List Rat),LinV C z vals→(∀ c∈C,c.length=vals.length)→(∀ i ts,l[i]? = some ts → ∀ t∈ts,t.1.toNat<vals.length+i) →
  LinV (C.map fun c=>exS u (-1) k c l) z (exS u (-1) k vals l)
 | [],_,C,vals,h,_,_=>by
  have e:(C.map fun c=>exS u (-1) 0 c [])=C:=by
   simp [exS]
  simpa [exS] using h
 | ts::l,k,C,vals,h,hc,ht=>by
  have hts:=ht 0 ts rfl
  have e0 : ¬ (k:Int) = -1:=by omega
  simp only[exS,if_neg e0,Rat.add_zero]
  have hs:=h.sum ts (fun t h1=>by have:=hts t h1;omega)
  have hstep:LinV (C.map fun c=>c++[sumQ c ts/u]) z (vals++[sumQ vals ts/u]):=by
   intro m hm
   simp only[List.length_append,List.length_cons,List.length_nil]at hm
   rw[List.map_map]
   by_cases hm2:m<vals.length
   ·rw[getD_snoc_lt hm2,h m hm2]
    congr 1
    refine List.map_congr_left fun c hcm => ?_
    simp only[Function.comp]
    rw[getD_snoc_lt (by rw[hc c hcm];exact hm2)]
   ·rw[getD_snoc_eq (by omega)]
    have e1:(C.map ((fun c=>c.getD m 0) ∘ fun c=>c++[sumQ c ts/u]))=C.map fun c=>u⁻¹*sumQ c ts:=by
     refine List.map_congr_left fun c hcm => ?_
     simp only[Function.comp]
     rw[getD_snoc_eq (by rw[hc c hcm];omega),Rat.div_def,Rat.mul_comm]
    rw[e1,hs,Rat.div_def,Rat.mul_comm]
    have:=dotQ_smul u⁻¹ (C.map fun c=>sumQ c ts) z
    rw[List.map_map]at this
    rw[←this];rfl
  have ih:=LinV.all hu l (k+1) (C.map fun c=>c++[sumQ c ts/u]) (vals++[sumQ vals ts/u]) hstep (fun c hcm=>by
   obtain ⟨c0,h0,rfl⟩:=List.mem_map.1 hcm
   simp [hc c0 h0]) (fun i ts2 h2 t h3=>by
   have:=ht (i+1) ts2 h2 t h3
   simp;omega)
  rw[List.map_map]at ih
  exact ih
theorem Bt.ofInt {k:Nat} {z:Int} (h:z.natAbs≤2^k):Bt k ((z:Int):Rat):=⟨by rw[Rat.num_intCast];exact h,by rw[Rat.den_intCast];exact Nat.one_le_two_pow⟩
end Go.Eng

namespace Go.Eng
theorem mxB_none (σ:Stp) (k:Nat) : ∀ (n i:Nat),mxB σ k i (List.replicate n none)=List.replicate n [.nil]
 | 0,_=>rfl
 | n+1,i=>by
  rw[List.replicate_succ,List.replicate_succ]
  show [AV.nil]::mxB σ k (i+1) (List.replicate n none)=_
  rw[mxB_none σ k n (i+1)]
theorem AKM.mxN {L:Lib} {kk:List It} {tm:Tm} {M:Mem} {Q:Tm→Mem→Prop} (k s n:Nat) (e:mget M k=some (s,.mx (List.replicate n none))) (h:AKM L kk tm ((k,s,.rw 1 (List.replicate n [.nil]))::M) Q):AKM L kk tm M Q:=by
 intro σ st hr
 have hg : ∀ j t c,mref ((k,s,.rw 1 (List.replicate n [.nil]))::M) j t=some c → ∃ c0,mref M j t=some c0∧c0.blk σ j=c.blk σ j:=by
  intro j t c g
  by_cases hj:j=k
  ·subst hj
   cases t with
   | zero =>
    have h1:mget ((j,s,Cel.rw 1 (List.replicate n [.nil]))::M) j=some (s,.rw 1 (List.replicate n [.nil])):=by simp [mget]
    simp only[mref,h1,Option.some.injEq]at g
    subst g
    refine ⟨.mx (List.replicate n none),by simp only[mref,e],?_⟩
    simp only[Cel.blk,mxB_none]
   | succ i =>
    have h1:mget ((j,s,Cel.rw 1 (List.replicate n [.nil]))::M) j=some (s,.rw 1 (List.replicate n [.nil])):=by simp [mget]
    simp only[mref,h1]at g
    cases g
  ·have h1:mget ((k,s,Cel.rw 1 (List.replicate n [.nil]))::M) j=mget M j:=by
    have hb:Nat.beq j k=false:=by
     cases hbb:Nat.beq j k with
     | false=>rfl
     | true=>exact absurd (Nat.eq_of_beq_eq_true hbb) hj
    simp only[mget,hb,cond_false]
   refine ⟨c,?_,rfl⟩
   simp only[mref,h1]at g ⊢
   exact g
 refine h σ st ⟨hr.tm,⟨?_,?_,?_,?_,?_⟩⟩
 ·intro j s' c g
  by_cases hj:j=k
  ·subst hj
   have h1:mget ((j,s,Cel.rw 1 (List.replicate n [.nil]))::M) j=some (s,.rw 1 (List.replicate n [.nil])):=by simp [mget]
   rw[h1]at g
   simp only[Option.some.injEq,Prod.mk.injEq]at g
   obtain ⟨rfl,_⟩:=g
   exact hr.sat.site _ _ _ e
  ·have h1:mget ((k,s,Cel.rw 1 (List.replicate n [.nil]))::M) j=mget M j:=by
    have hb:Nat.beq j k=false:=by
     cases hbb:Nat.beq j k with
     | false=>rfl
     | true=>exact absurd (Nat.eq_of_beq_eq_true hbb) hj
    simp only[mget,hb,cond_false]
   rw[h1]at g
   exact hr.sat.site _ _ _ g
 ·intro j t c g
  obtain ⟨c0,q1,q2⟩:=hg j t c g
  rw[←q2];exact hr.sat.blk _ _ _ q1
 ·intro j t c g
  obtain ⟨c0,q1,_⟩:=hg j t c g
  exact hr.sat.old _ _ _ q1
 ·intro j t j' t' c c' g g' hσ
  obtain ⟨c0,q1,_⟩:=hg j t c g
  obtain ⟨c1,q2,_⟩:=hg j' t' c' g'
  exact hr.sat.inj _ _ _ _ _ _ q1 q2 hσ
 ·intro j t c g hw
  cases t with
  | zero =>
   by_cases hj:j=k
   ·subst hj;exact hr.sat.low _ _ _ (mref_root e) rfl
   ·rw[mref_cons_ne hj]at g;exact hr.sat.low _ _ _ g hw
  | succ t =>
   obtain ⟨c0,q1,_⟩:=hg _ _ _ g
   exact hr.sat.low _ _ _ q1 (mref_row q1)
end Go.Eng

namespace Go.Eng
variable {L:Lib}
def RetR (fn:AFn) (z:Nat) (es:List (List AV)) (tm:Tm) (M:Mem):Prop:=match fn.res with
 | [.tmp t]=>match tg tm t with
  | .row k 0 z' 0 n=>match mget M k with
   | some (_,.rw z'' es')=>z'=z∧z''=z∧n=es.length∧es'=es∧CleanLL es
   | _=>False
  | _=>False
 | _=>False
theorem EvR.x {f:Nat} {fn:AFn} {vs:List AV} {z:Nat} {es:List (List AV)} (hL:L f=some fn) (hp:Nat.beq vs.length fn.pars=true) (hd:datAL vs=true) (h:AKM L [.code fn.body] (initTm 0 vs) [] (RetR fn z es)):EvR L f vs z es:=by
 obtain ⟨n,c,st',hr,σ,tm,M,hR,hq⟩:=h (fun _ _=>(0,0)) ⟨initTm 0 vs,Own.emp⟩ ⟨fun j=>Or.inr (by rw[tg_eq];exact datAL_tg hd j),⟨(fun _ _ _ e=>by cases e),(fun _ _ _ e=>by simp [mref,mget]at e),(fun _ _ _ e=>by simp [mref,mget]at e),(fun _ _ _ _ _ _ e=>by simp [mref,mget]at e),(fun _ _ _ e=>by simp [mref,mget]at e)⟩⟩
 unfold RetR at hq
 split at hq
 ·rename_i t hres
  split at hq
  ·rename_i k z' m htm
   split at hq
   ·rename_i s z'' es' hM
    obtain ⟨rfl,rfl,rfl,rfl,hcl⟩:=hq
    have hv:tget st'.tm t = .row (σ k 0).1 (σ k 0).2 z'' 0 es'.length:=by
     rcases hR.tm t with e|e
     ·rw[htm]at e;cases e
     ·rw[e,htm];rfl
    have hb:=hR.sat.blk k 0 (.rw z'' es') (by simp only[mref,hM])
    obtain ⟨q,hq⟩:=EvI.intro (r := .row (σ k 0).1 (σ k 0).2 z'' 0 es'.length) (o':=st'.own) hL (beq_iff.1 hp) ⟨n,c,st',hr,by simp [hres,resOf,hv,resTmp,resVal],rfl⟩
    refine ⟨q,?_⟩
    simp only[hq,adoptR,Own.get,hb]
    rw[if_pos (show (Cel.blk σ k (.rw z'' es')).es.length=es'.length∧CleanLL (Cel.blk σ k (.rw z'' es')).es from ⟨rfl,hcl⟩)]
    rfl
   ·exact hq.elim
  ·exact hq.elim
 ·exact hq.elim
theorem AKM.xf {Q:Tm→Mem→Prop} {c:ACode} {k:List It} {tm:Tm} {M:Mem} (n:Nat) (h:fT (cnm 0 tm) fun tm=>fM (mcan M) fun M=>XK L Q n (.code c::k) tm M):AKM L (.code c::k) tm M Q:=by
 rw[fT_eq,fM_eq]at h
 exact AKM.can (XK_sound h)
theorem CallR.go {α:Type} {enc:α→List AV} {l:List α} {f z:Nat} {vs:List AV} {K:Nat→List (List AV)→Nat→Prop} (n:Nat) (h:EvR L f vs z (l.map enc)) (hn:n=l.length) (hk:K z (l.map enc) n):CallR L f vs K:=⟨z,_,n,h,by simpa using hn,hk⟩
end Go.Eng



namespace Go.Eng
open F
attribute [local irreducible] AKM CmpP Req OpP UnP ConvP RdP LdR StR MkR LenP AppR AppN CpyR RowP SnR Bds SlS CallP CalP FinP pw LdM GetM SetM PutM MkM AppM SnM FlP CallR
set_option maxHeartbeats 4000000
variable {L:Lib}
theorem unit_set (m p:Nat):(List.replicate m (0:Rat)).set p 1=unitL m p:=by
 refine List.ext_getElem? fun j => ?_
 simp only[unitL,List.getElem?_set,List.getElem?_map,List.getElem?_replicate,List.length_replicate]
 by_cases h:j<m
 ·rw[List.getElem?_range h]
  by_cases e:p=j
  ·subst e;simp [h]
  ·simp [h,e];intro h3;omega
 ·rw[List.getElem?_eq_none (by simpa using h)]
  simp [h]
  intro e;omega
theorem Bs.unit (k m:Nat) (p:Int):Bs k (unitL m p):=by
 intro x hx
 simp only[unitL,List.mem_map]at hx
 obtain ⟨a,_,rfl⟩:=hx
 split
 ·exact Bt.one k
 ·exact Bt.zero k
end Go.Eng

namespace Go.Eng
open F
attribute [local irreducible] AKM CmpP Req OpP UnP ConvP RdP LdR StR MkR LenP AppR AppN CpyR RowP SnR Bds SlS CallP CalP FinP pw LdM GetM SetM PutM MkM AppM SnM FlP CallR
set_option maxHeartbeats 4000000
variable {L:Lib}
theorem fillM_set {α:Type} (a b:α) {t m:Nat} (_:t≤m) (h:t<m):(List.replicate t a++List.replicate (m-t) b).set t a=List.replicate (t+1) a++List.replicate (m-(t+1)) b:=by
 obtain ⟨k,hk⟩ : ∃ k,m-t=k+1:=⟨m-t-1,by omega⟩
 rw[List.set_append_right _ _ (by simp),hk,List.length_replicate,Nat.sub_self,List.replicate_succ,List.set_cons_zero,show m-(t+1)=k by omega,List.replicate_succ',List.append_assoc]
 rfl
def fz {α:Type} (z:α) (l:List α) (m:Nat):List α:=l++List.replicate (m-l.length) z
theorem fz_len {α:Type} {z:α} {l:List α} {m:Nat} (h:l.length≤m):(fz z l m).length=m:=by simp [fz];omega
theorem fz_set {α:Type} {z x:α} {l:List α} {m:Nat} (h:l.length<m):(fz z l m).set l.length x=fz z (l++[x]) m:=by
 unfold fz
 obtain ⟨k,hk⟩ : ∃ k,m-l.length=k+1:=⟨m-l.length-1,by omega⟩
 rw[List.set_append_right _ _ (by simp),hk,Nat.sub_self,List.replicate_succ,List.set_cons_zero,List.length_append,List.length_singleton,show m-(l.length+1)=k by omega,List.append_assoc]
 rfl
theorem fz_at {α:Type} {z:α} {l:List α} {m:Nat} (h:l.length<m):(fz z l m)[l.length]? = some z:=by
 unfold fz
 rw[List.getElem?_append_right (by omega),Nat.sub_self,List.getElem?_replicate,if_pos (by omega)]
theorem fz_full {α:Type} {z:α} {l:List α} {m:Nat} (h:l.length=m):fz z l m=l:=by simp [fz,h]
theorem take_snocA {α:Type} {l:List α} {i:Nat} {x:α} (h:l[i]? = some x):l.take (i+1)=l.take i++[x]:=by
 rw[List.take_add_one,h];rfl
end Go.Eng

namespace Go.Eng
def colQ (m:List (List Rat)) (j:Nat):List Rat:=m.map fun r=>r.getD j 0
def mulRow (r:List Rat) (m:List (List Rat)) (n:Nat):List Rat:=(List.range n).map fun j=>dotQ r (colQ m j)
def mulQ (a m:List (List Rat)) (n:Nat):List (List Rat):=a.map fun r=>mulRow r m n
def trQ (m:List (List Rat)):Nat→Rat
 | 0=>0
 | i+1=>trQ m i+(m.getD i []).getD i 0
def idQ (n:Nat):List (List Rat):=(List.range n).map fun i:Nat=>unitL n i
def mvQ (m:List (List Rat)) (b:List Rat):List Rat:=m.map fun r=>dotQ r b
theorem colQ_len (m:List (List Rat)) (j:Nat):(colQ m j).length=m.length:=by simp [colQ]
theorem mulRow_len (r:List Rat) (m:List (List Rat)) (n:Nat):(mulRow r m n).length=n:=by simp [mulRow]
theorem mulQ_len (a m:List (List Rat)) (n:Nat):(mulQ a m n).length=a.length:=by simp [mulQ]
theorem mvQ_len (m:List (List Rat)) (b:List Rat):(mvQ m b).length=m.length:=by simp [mvQ]
structure Sq (n:Nat) (m:List (List Rat)):Prop where
 l:m.length=n
 r : ∀ r∈m,r.length=n
theorem Sq.at {n:Nat} {m:List (List Rat)} (h:Sq n m) {i:Nat} {r:List Rat} (hr:m[i]? = some r):r.length=n:=h.r r (List.mem_of_getElem? hr)
theorem Sq.mul {n:Nat} {a:List (List Rat)} (h:a.length=n) (m:List (List Rat)):Sq n (mulQ a m n):=by
 refine ⟨by rw[mulQ_len,h],fun r hr => ?_⟩
 obtain ⟨x,_,rfl⟩:=List.mem_map.1 hr
 exact mulRow_len _ _ _
theorem Sq.id (n:Nat):Sq n (idQ n):=by
 refine ⟨by simp [idQ],fun r hr => ?_⟩
 obtain ⟨i,_,rfl⟩:=List.mem_map.1 hr
 exact unitL_len _ _
def Ms (k:Nat) (m:List (List Rat)):Prop := ∀ r∈m,Bs k r
theorem Ms.at {k:Nat} {m:List (List Rat)} (h:Ms k m) {i:Nat} {r:List Rat} (hr:m[i]? = some r):Bs k r:=h r (List.mem_of_getElem? hr)
theorem Ms.getD {k:Nat} {m:List (List Rat)} (h:Ms k m) (i j:Nat):Bt k ((m.getD i []).getD j 0):=by
 rw[List.getD_eq_getElem?_getD,List.getD_eq_getElem?_getD]
 cases e:m[i]? with
 | none=>exact Bt.zero k
 | some r =>
  simp only[Option.getD_some]
  cases e2:r[j]? with
  | none=>exact Bt.zero k
  | some x=>exact (h.at e).at e2
theorem Ms.le {k j:Nat} {m:List (List Rat)} (h:Ms k m) (hj:k≤j):Ms j m:=fun r hr=>(h r hr).le hj
theorem Ms.col {k:Nat} {m:List (List Rat)} (h:Ms k m) (j:Nat):Bs k (colQ m j):=by
 intro x hx
 obtain ⟨r,hr,rfl⟩:=List.mem_map.1 hx
 rw[List.getD_eq_getElem?_getD]
 cases e:r[j]? with
 | none=>exact Bt.zero k
 | some x=>exact (h r hr).at e
theorem Ms.mul {n k s:Nat} {a m:List (List Rat)} (ha:Ms k a) (hs:Sq n a) (hm:Ms s m):Ms (n*(k+s+1)) (mulQ a m n):=by
 intro r hr x hx
 obtain ⟨r,h1,rfl⟩:=List.mem_map.1 hr
 obtain ⟨j,_,rfl⟩:=List.mem_map.1 hx
 have:=(ha r h1).dot (hm.col j)
 rw[hs.r r h1]at this
 exact this
theorem Ms.tr {k:Nat} {m:List (List Rat)} (h:Ms k m) : ∀ i,Bt (i*(k+1)) (trQ m i)
 | 0=>Bt.zero _
 | i+1=>by
  refine ((Ms.tr h i).add (h.getD i i)).le ?_
  rw[Nat.succ_mul];omega
theorem Ms.id (n k:Nat):Ms k (idQ n):=by
 intro r hr x hx
 obtain ⟨i,_,rfl⟩:=List.mem_map.1 hr
 simp only[unitL,List.mem_map]at hx
 obtain ⟨a,_,rfl⟩:=hx
 split
 ·exact Bt.one k
 ·exact Bt.zero k
end Go.Eng

namespace Go.Eng
variable {L:Lib}
end Go.Eng

namespace Go.Eng
open F
attribute [local irreducible] AKM CmpP Req OpP UnP ConvP RdP LdR StR MkR LenP AppR AppN CpyR RowP SnR Bds SlS CallP CalP FinP pw LdM GetM SetM PutM MkM AppM SnM FlP CallR
set_option maxHeartbeats 16000000
variable {L:Lib}
def ot (P:List (List Rat)) (n j i:Nat):List (List (Option Rat)):=(List.range P.length).map fun r=>fillO ((P.getD r []).take (if r<i then j+1 else j)) n
theorem ot_len (P:List (List Rat)) (n j i:Nat):(ot P n j i).length=P.length:=by simp [ot]
theorem getD_row {P:List (List Rat)} {i:Nat} {row:List Rat} (h:P[i]? = some row):P.getD i []=row:=by rw[List.getD_eq_getElem?_getD,h];rfl
theorem ot_at {P:List (List Rat)} {n j i r:Nat} {row:List Rat} (h:P[r]? = some row):(ot P n j i)[r]? = some (fillO (row.take (if r<i then j+1 else j)) n):=by
 have h1:=(List.getElem?_eq_some_iff.1 h).1
 simp only[ot,List.getElem?_map,List.getElem?_range h1,Option.map_some,getD_row h]
theorem ot_set {P:List (List Rat)} {n j i:Nat} {row:List Rat} (h:P[i]? = some row):(ot P n j i).set i (fillO (row.take (j+1)) n)=ot P n j (i+1):=by
 refine List.ext_getElem? fun r => ?_
 rw[List.getElem?_set,ot_len]
 cases e:P[r]? with
 | none =>
  have h1:=List.getElem?_eq_none_iff.1 e
  have h2:=(List.getElem?_eq_some_iff.1 h).1
  rw[List.getElem?_eq_none (by rw[ot_len];exact h1),if_neg (by omega),List.getElem?_eq_none (by rw[ot_len];exact h1)]
 | some rw' =>
  rw[ot_at e,ot_at e]
  by_cases hi:i=r
  ·subst hi
   obtain rfl:=Option.some.inj (h.symm.trans e)
   have h2:=(List.getElem?_eq_some_iff.1 h).1
   rw[if_pos rfl,if_pos h2,if_pos (by omega)]
  ·rw[if_neg hi]
   by_cases h3:r<i
   ·rw[if_pos h3,if_pos (by omega)]
   ·rw[if_neg h3,if_neg (by omega)]
theorem ot_next (P:List (List Rat)) (n j:Nat):ot P n j P.length=ot P n (j+1) 0:=by
 refine List.map_congr_left fun r hr => ?_
 rw[if_pos (List.mem_range.1 hr),if_neg (by omega)]
theorem ot_zero (P:List (List Rat)) (n:Nat):ot P n 0 0=List.replicate P.length (fillO [] n):=by
 refine List.ext_getElem? fun r => ?_
 simp only[ot,List.getElem?_map,List.getElem?_replicate]
 by_cases h:r<P.length
 ·rw[List.getElem?_range h,if_pos h];simp
 ·rw[List.getElem?_eq_none (by simp;omega),if_neg h];rfl
theorem ot_full {P:List (List Rat)} {n:Nat} (h : ∀ r∈P,r.length=n):mxR 3 eO (ot P n n 0)=mxR 3 eQ P:=by
 refine List.ext_getElem? fun r => ?_
 simp only[mxR,List.getElem?_map]
 cases e:P[r]? with
 | none=>rw[List.getElem?_eq_none (by rw[ot_len];exact List.getElem?_eq_none_iff.1 e)];rfl
 | some row =>
  have hl:=h row (List.mem_of_getElem? e)
  rw[ot_at e,if_neg (by omega),List.take_of_length_le (by omega)]
  simp only[Option.map_some,fillO_full hl]
end Go.Eng

namespace Go.Eng
open F
attribute [local irreducible] AKM CmpP Req OpP UnP ConvP RdP LdR StR MkR LenP AppR AppN CpyR RowP SnR Bds SlS CallP CalP FinP pw LdM GetM SetM PutM MkM AppM SnM FlP CallR
set_option maxHeartbeats 4000000
variable {L:Lib}
end Go.Eng

namespace Go.Eng
theorem LdM.st {R:List (Option (Nat × List (List AV)))} {i e z:Nat} {es:List (List AV)} {K:Option (Nat × List (List AV))→Prop} (he:e=i) (hi:i<R.length) (h:K (some (z,es))):LdM (R.set i (some (z,es))) e K:=by
 subst he
 exact ⟨_,by rw[List.getElem?_set,if_pos rfl,if_pos hi],h⟩
theorem GetM.st {R:List (Option (Nat × List (List AV)))} {i e z:Nat} {es:List (List AV)} {K:Nat→List (List AV)→Prop} (he:e=i) (hi:i<R.length) (h:K z es):GetM (R.set i (some (z,es))) e K:=by
 subst he
 exact ⟨z,es,by rw[List.getElem?_set,if_pos rfl,if_pos hi],h⟩
theorem PutM.st {R:List (Option (Nat × List (List AV)))} {i e z:Nat} {es es':List (List AV)} {K:List (Option (Nat × List (List AV)))→Prop} (he:e=i) (hl:es'.length=es.length) (h:K (R.set i (some (z,es')))):PutM (R.set i (some (z,es))) e z es es' K:=by
 subst he
 exact ⟨hl,by rw[List.set_set];exact h⟩
theorem SetM.fz {R:List (Option (Nat × List (List AV)))} {i e z:Nat} {es:List (List AV)} {K:List (Option (Nat × List (List AV)))→Prop} (he:e=i) (hi:i<R.length) (h:K (R.set i (some (z,es)))):SetM R e z es K:=by
 subst he
 exact ⟨hi,h⟩
end Go.Eng

namespace Go.Eng
open F
attribute [local irreducible] AKM CmpP Req OpP UnP ConvP RdP LdR StR MkR LenP AppR AppN CpyR RowP SnR Bds SlS CallP CalP FinP pw LdM GetM SetM PutM MkM AppM SnM FlP CallR
set_option maxHeartbeats 16000000
variable {L:Lib}
def mz (Q:List (List Rat)) (n i:Nat):List (Option (Nat × List (List AV))):=fz none (mxR 3 eQ (Q.take i)) n
theorem mz_len {Q:List (List Rat)} {n i:Nat} (hi:i≤n):(mz Q n i).length=n:=by
 refine fz_len ?_
 simp only[mxR,List.length_map,List.length_take];omega
theorem mz_zero (Q:List (List Rat)) (n:Nat):mz Q n 0=List.replicate n none:=by simp [mz,fz]
theorem mz_set {Q:List (List Rat)} {n i:Nat} {row:List Rat} (h:Q[i]? = some row) (hi:i<n):(mz Q n i).set i (some (3,row.map eQ))=mz Q n (i+1):=by
 have h1:=(List.getElem?_eq_some_iff.1 h).1
 have hl:(mxR 3 eQ (Q.take i)).length=i:=by simp only[mxR,List.length_map,List.length_take];omega
 have:=fz_set (z:=none) (l:=mxR 3 eQ (Q.take i)) (m:=n) (x:=some (3,row.map eQ)) (by omega)
 rw[hl]at this
 rw[mz,this,mz,take_snocA h]
 simp [mxR]
theorem mz_full {Q:List (List Rat)} {n:Nat} (h:Q.length=n):mz Q n n=mxR 3 eQ Q:=by
 rw[mz,List.take_of_length_le (by omega)]
 exact fz_full (by simp [mxR,h])
end Go.Eng

namespace Go.Eng
open Go.ChangeShapes Go.WideShapes Go.ChangeAt Go.RowKit
inductive Ty where
 | int (k:IntKind)
 | bool
 | sl (e:Ty)
 | nil
 | cons (a r:Ty)
def Ty.cells:Ty→Nat
 | .int _=>1 | .bool=>1 | .sl _=>1
 | .nil=>0
 | .cons a r=>a.cells+r.cells
def HasL:Ty→List AV→Prop
 | .int k,cs => ∃ n,cs=[.int k n]∧(Lit.int k n).wf=true
 | .bool,cs => ∃ b,cs=[.bool b]
 | .sl e,cs => ∃ es,cs=[.sl true es]∧es.length≤maxLen ∧ ∀ x∈es,HasL e x
 | .nil,cs=>cs=[]
 | .cons a r,cs => ∃ x y,cs=x++y∧HasL a x∧HasL r y
theorem HasL.len : ∀ {ty:Ty} {cs:List AV},HasL ty cs→cs.length=ty.cells
 | .int _,cs,h=>by obtain ⟨n,rfl,_⟩:=h;rfl
 | .bool,cs,h=>by obtain ⟨n,rfl⟩:=h;rfl
 | .sl _,cs,h=>by obtain ⟨n,rfl,_⟩:=h;rfl
 | .nil,cs,h=>by rw[show cs=[] from h];rfl
 | .cons a r,cs,h=>by obtain ⟨x,y,rfl,h1,h2⟩:=h;simp [Ty.cells,HasL.len h1,HasL.len h2]
def okTy (P:Program):Nat→TypeId→Ty→Bool
 | 0,_,_=>false
 | n+1,t,ty=>match P.underlying t,ty with
  | some (.int k),.int k'=>decide (k=k')
  | some .bool,.bool=>true
  | some (.slice e),.sl ty'=>okTy P n e ty'&&(P.cellsOf e == ty'.cells&&decide (0<ty'.cells))
  | some (.struct fs),ty=>go (okTy P n) fs.toList 0 ty&&P.cellsOf t == ty.cells
  | _,_=>false
where
 go (ok:TypeId→Ty→Bool):List Field→Nat→Ty→Bool
  | [],_,.nil=>true
  | f::fs,off,.cons a r=>(f.offset == off&&(ok f.type a&&P.cellsOf f.type == a.cells))&&go ok fs (off+a.cells) r
  | _,_,_=>false
section
variable {H:Type} {enc:TypeId × Value→H} {P:Program} {w:World} {base:Nat} {spare:Nat→Bool} {held:Bool} {R:Bool→Nat→Prop}
def RdL (w:World) (R:Bool→Nat→Prop) (as:List AV) (cs:List Value):Prop:=as.length=cs.length ∧ ∀ (j:Nat) (a:AV) (c:Value),as[j]? = some a→cs[j]? = some c→Rd w R a c
theorem RdL.one {a:AV} {c:Value} (h:Rd w R a c):RdL w R [a] [c]:=by
 refine ⟨rfl,fun j a' c' h1 h2 => ?_⟩
 cases j with
 | zero=>simp at h1 h2;subst h1 h2;exact h
 | succ j=>simp at h1
theorem RdL.append {as bs:List AV} {cs ds:List Value} (h1:RdL w R as cs) (h2:RdL w R bs ds):RdL w R (as++bs) (cs++ds):=by
 refine ⟨by simp [h1.1,h2.1],fun j a c ha hc => ?_⟩
 by_cases hj:j<as.length
 ·rw[List.getElem?_append_left hj]at ha
  rw[List.getElem?_append_left (by rw[←h1.1];exact hj)]at hc
  exact h1.2 j a c ha hc
 ·rw[List.getElem?_append_right (by omega)]at ha
  rw[List.getElem?_append_right (by rw[←h1.1];omega),←h1.1]at hc
  exact h2.2 _ a c ha hc
theorem add_off (a:Addr) (i:Nat) (h:a.spot=none):a.add i=⟨a.block,a.off+i,none⟩:=by
 obtain ⟨b,o,s⟩:=a
 simp only at h
 subst h
 exact add_none b o i
theorem open_go (hR : ∀ b,b<w.heap.size→R true b) (m:Nat) (ih : ∀ (ty:Ty) (t:TypeId) (cs:List Value) (fuel:Nat) (x:DataW H × List MemPlace),okTy P m t ty=true→DataW.trod enc P w base spare held fuel t cs=some x → ∃ as,HasL ty as∧RdL w R as cs)
  (n:Nat) (cs:List Value) : ∀ (fs:List Field) (off:Nat) (ty:Ty),okTy.go P (okTy P m) fs off ty=true→(∀ f∈fs,∃ y,DataW.trod enc P w base spare held n f.type ((cs.drop f.offset).take (P.cellsOf f.type))=some y)→off+ty.cells=cs.length → ∃ as,HasL ty as∧RdL w R as (cs.drop off)
 | [],off,ty,hok,_,hl=>by
  cases ty<;>simp only[okTy.go,Bool.false_eq_true]at hok
  simp only[Ty.cells]at hl
  exact ⟨[],rfl,by rw[List.drop_of_length_le (by omega)];exact ⟨rfl,fun j a c h=>by simp at h⟩⟩
 | f::fs,off,ty,hok,hf,hl=>by
  cases ty<;>simp only[okTy.go,Bool.false_eq_true,Bool.and_eq_true,beq_iff_eq]at hok
  rename_i a r
  obtain ⟨⟨h1,h2,h3⟩,h4⟩:=hok
  simp only[Ty.cells]at hl
  obtain ⟨y,hy⟩:=hf f List.mem_cons_self
  rw[h1,h3]at hy
  obtain ⟨as1,g1,g2⟩:=ih a f.type _ n y h2 hy
  obtain ⟨as2,g3,g4⟩:=open_go hR m ih n cs fs (off+a.cells) r h4 (fun f' h'=>hf f' (List.mem_cons_of_mem _ h')) (by omega)
  refine ⟨as1++as2,⟨as1,as2,rfl,g1,g3⟩,?_⟩
  have:=g2.append g4
  rwa [show (cs.drop off).take a.cells++cs.drop (off+a.cells)=cs.drop off by rw[←List.drop_drop,List.take_append_drop]]at this
theorem open_any (hR : ∀ b,b<w.heap.size→R true b) : ∀ (m:Nat) (ty:Ty) (t:TypeId) (cs:List Value) (fuel:Nat) (x:DataW H × List MemPlace),okTy P m t ty=true→DataW.trod enc P w base spare held fuel t cs=some x → ∃ as,HasL ty as∧RdL w R as cs
 | 0,_,_,_,_,_,h,_=>by simp [okTy]at h
 | m+1,ty,t,cs,fuel,x,hok,h=>by
  have ih:=open_any hR m
  simp only[okTy]at hok
  split at hok
  ·rename_i k k' hu
   obtain rfl:k=k':=by simpa using hok
   obtain ⟨n,rfl,_,hw⟩:=DataW.trod_int hu h
   exact ⟨[.int k n],⟨n,rfl,hw⟩,RdL.one (.int k n)⟩
  ·rename_i hu
   cases fuel with
   | zero=>simp [DataW.trod]at h
   | succ fuel =>
    unfold DataW.trod at h
    rw[hu]at h
    split at h<;>simp_all
    exact ⟨_,⟨_,rfl⟩,RdL.one (.bool _)⟩
  ·rename_i e ty' hu
   simp only[Bool.and_eq_true,beq_iff_eq,decide_eq_true_eq]at hok
   obtain ⟨h1,h2,h3⟩:=hok
   rcases DataW.trod_slice hu h with ⟨rfl,_⟩|⟨a,len,cap,elems,rest,n,_,rfl,_,hb,hl,hm,hlen,hel,_,_⟩
   ·exact ⟨[.sl true []],⟨[],rfl,by simp,by simp⟩,RdL.one (.sl0 true none 0)⟩
   ·have each : ∀ i,i<len → ∃ as cs',HasL ty' as∧RdL w R as cs'∧cs'.length=ty'.cells ∧ ∀ j,j<ty'.cells→w.cell? ((a.add (i*ty'.cells)).add j)=cs'[j]? := by
     intro i hi
     have:=hel i hi
     rw[h2,List.getElem?_eq_getElem (by omega),Option.bind_eq_some_iff]at this
     obtain ⟨cs',hc,ht⟩:=this
     obtain ⟨as,g1,g2⟩:=ih ty' e cs' n _ h1 ht
     obtain ⟨_,q1,q2⟩:=World.cells?_some hc
     exact ⟨as,cs',g1,g2,q1,q2⟩
    by_cases h0:len=0
    ·subst h0
     exact ⟨[.sl true []],⟨[],rfl,by simp,by simp⟩,RdL.one (.sl0 true (some a) cap)⟩
    ·have hspot:a.spot=none:=by
      obtain ⟨as,cs',_,_,q1,q2⟩:=each 0 (by omega)
      have:=q2 0 h3
      rw[List.getElem?_eq_getElem (by omega)]at this
      simpa [Addr.add] using World.cell?_spot this
     have hblk:a.block<w.heap.size:=by
      obtain ⟨as,cs',_,_,q1,q2⟩:=each 0 (by omega)
      have:=q2 0 h3
      rw[List.getElem?_eq_getElem (by omega)]at this
      simpa [Addr.add] using cell_lt this
     have pick : ∃ f:Nat→List AV × List Value,∀ i,i<len→HasL ty' (f i).1∧RdL w R (f i).1 (f i).2∧(f i).2.length=ty'.cells ∧ ∀ j,j<ty'.cells→w.cell? ((a.add (i*ty'.cells)).add j)=(f i).2[j]? := by
      refine ⟨fun i=>if hi:i<len then (Classical.choose (each i hi),Classical.choose (Classical.choose_spec (each i hi))) else ([],[]),fun i hi => ?_⟩
      simp only[hi,dif_pos]
      exact Classical.choose_spec (Classical.choose_spec (each i hi))
     obtain ⟨f,hf⟩:=pick
     have hget : ∀ i e',((List.range len).map fun i=>(f i).1)[i]? = some e'→i<len∧e'=(f i).1:=by
      intro i e' he
      rw[List.getElem?_map]at he
      by_cases hi:i<len
      ·rw[List.getElem?_range hi]at he
       simp at he
       exact ⟨hi,he.symm⟩
      ·rw[List.getElem?_eq_none (by simpa using hi)]at he
       cases he
     refine ⟨[.sl true ((List.range len).map fun i=>(f i).1)],⟨_,rfl,by simp;omega,fun x hx => ?_⟩,RdL.one ?_⟩
     ·obtain ⟨i,hi,rfl⟩:=List.mem_map.1 hx
      exact (hf i (List.mem_range.1 hi)).1
     ·obtain ⟨ab,ao,as⟩:=a
      simp only at hspot
      subst hspot
      have hlen':((List.range len).map fun i=>(f i).1).length=len:=by simp
      have:=Rd.sl (w:=w) (R:=R) true ((List.range len).map fun i=>(f i).1) ab ao ty'.cells cap (fun i j=>((f i).2[j]?).getD default) (by intro e;have:=congrArg List.length e;simp at this;omega) h3 (hR ab hblk) (by rw[hlen'];exact hl)
       (fun e' he=>by
        obtain ⟨i,hi,rfl⟩:=List.mem_map.1 he
        exact (hf i (List.mem_range.1 hi)).1.len)
       (fun i e' he j c hc=>by
        obtain ⟨hi,rfl⟩:=hget i e' he
        obtain ⟨g1,g2,g3,g4⟩:=hf i hi
        have hj:j<ty'.cells:=by
         have:=(List.getElem?_eq_some_iff.1 hc).1
         rwa [g1.len]at this
        have h5:=g4 j hj
        rw[add_off ⟨ab,ao,none⟩ (i*ty'.cells) rfl,add_off _ _ rfl]at h5
        simp only at h5
        rw[show ao+(i*ty'.cells+j)=ao+i*ty'.cells+j by omega,h5,List.getElem?_eq_getElem (by omega)]
        rfl)
       (fun i e' he j c hc=>by
        obtain ⟨hi,rfl⟩:=hget i e' he
        obtain ⟨g1,g2,g3,g4⟩:=hf i hi
        have hj:j<ty'.cells:=by
         have:=(List.getElem?_eq_some_iff.1 hc).1
         rwa [g1.len]at this
        have h6:(f i).2[j]? = some ((f i).2[j]'(by omega)):=List.getElem?_eq_getElem _
        rw[h6]
        exact g2.2 j c _ hc h6)
      rwa [hlen']at this
  ·rename_i fs hu
   simp only[Bool.and_eq_true,beq_iff_eq]at hok
   obtain ⟨h1,h2⟩:=hok
   obtain ⟨xs,n,_,_,hl,hlen,hf⟩:=DataW.trod_struct hu h
   have:=open_go hR m ih n cs fs.toList 0 _ h1 (fun f hf'=>by
    obtain ⟨i,hi,rfl⟩:=List.getElem_of_mem hf'
    have h5:=hf i fs.toList[i] (by simp)
    rw[h5,List.getElem?_eq_getElem (by simpa [hlen] using hi)]
    exact ⟨_,rfl⟩) (by rw[hl,h2];omega)
   simpa using this
  ·exact absurd hok (by simp)
theorem open_cell {S:Nat→Prop} {ty:Ty} {t:TypeId} {v:Value} {d:DataW H} {ps:List MemPlace} {m:Nat} (hok:okTy P m t ty=true) (hv:v.cells.toList=[v]) (h:DataW.Trod enc P w base spare held t v d ps) :
  ∃ a,HasL ty [a]∧CA w.heap.size S ⟨fun _ _=>none,Own.emp,w⟩ a v:=by
 obtain ⟨fuel,hf⟩:=h
 rw[hv]at hf
 obtain ⟨as,h1,h2⟩:=open_any (R:=safe w.heap.size S ⟨fun _ _=>none,Own.emp,w⟩) (fun b hb=>Or.inr (Or.inr ⟨rfl,hb⟩)) m ty t [v] fuel _ hok hf
 obtain ⟨a,rfl⟩ : ∃ a,as=[a]:=by
  have:=h2.1
  match as,this with
  | [a],_=>exact ⟨a,rfl⟩
 exact ⟨a,h1,.one (.rd (h2.2 0 a v rfl rfl))⟩
end
theorem args_nil {B:Nat} {S:Nat→Prop} {m:M} : ∀ (j:Nat) (c:AV) (v:Value),([]:List AV)[j]? = some c→([]:List Value)[j]? = some v→CA B S m c v:=fun j c v h=>by simp at h
theorem args_cons {B:Nat} {S:Nat→Prop} {m:M} {a:AV} {u:Value} {as:List AV} {us:List Value} (h:CA B S m a u) (hr : ∀ (j:Nat) (c:AV) (v:Value),as[j]? = some c→us[j]? = some v→CA B S m c v) :
  ∀ (j:Nat) (c:AV) (v:Value),(a::as)[j]? = some c→(u::us)[j]? = some v→CA B S m c v
 | 0,c,v,h1,h2=>by simp at h1 h2;subst h1 h2;exact h
 | j+1,c,v,h1,h2=>hr j c v (by simpa using h1) (by simpa using h2)
theorem law_calls {P:Program} {num:Nat→Nat} {L:Lib} (hP:ProgOK P num L) {f:Nat} {vs:List AV} (h:Ev L f vs (.bool true)) {S:Nat→Prop} {w:World} {us:List Value} (hl:vs.length=us.length)
  (ha : ∀ (j:Nat) (c:AV) (v:Value),vs[j]? = some c→us[j]? = some v→CA w.heap.size S ⟨fun _ _=>none,Own.emp,w⟩ c v) :
  Calls P (num f) us.toArray w fun e w'=>e = .returned (.bool true)∧Below w.heap.size w w':=by
 obtain ⟨n,hn⟩:=h
 refine ((calls_ok hP n).pure f vs _ hn S w us hl ha).mono ?_
 rintro e w' ⟨u,rfl,hb,hcv,_⟩
 refine ⟨?_,hb⟩
 cases hcv with
 | ca hca=>cases hca with
  | one hcc=>cases hcc with
   | rd hrd=>cases hrd;rfl
end Go.Eng

namespace Go.Eng
abbrev tI:Ty := .int .i64
end Go.Eng

namespace Go.Eng
theorem list_ofR {α:Type} {enc:α→List AV} {p:α→Prop} : ∀ {es:List (List AV)},(∀ x∈es,∃ y,x=enc y∧p y) → ∃ l:List α,es=l.map enc ∧ ∀ y∈l,p y
 | [],_=>⟨[],rfl,by simp⟩
 | e::es,h=>by
  obtain ⟨y,rfl,hy⟩:=h e List.mem_cons_self
  obtain ⟨l,rfl,hl⟩:=list_ofR (enc:=enc) (p:=p) fun x hx=>h x (List.mem_cons_of_mem _ hx)
  exact ⟨y::l,rfl,by simpa using ⟨hy,hl⟩⟩
theorem has_slR {α:Type} {enc:α→List AV} {p:α→Prop} {e:Ty} {cs:List AV} (he : ∀ x,HasL e x → ∃ y,x=enc y∧p y) (h:HasL (.sl e) cs) : ∃ l:List α,cs=[.sl true (l.map enc)]∧l.length<9223372036854775808 ∧ ∀ y∈l,p y:=by
 obtain ⟨es,rfl,hl,hx⟩:=h
 obtain ⟨l,rfl,hp⟩:=list_ofR (enc:=enc) (p:=p) fun x hm=>he x (hx x hm)
 refine ⟨l,rfl,?_,hp⟩
 have:maxLen=9223372036854775807:=rfl
 simp at hl
 omega
theorem wf_InR {n:Int} (h:(Lit.int .i64 n).wf=true):InI n:=by
 simp only[Lit.wf,Bool.and_eq_true,decide_eq_true_eq]at h
 have h1:IntKind.i64.min = -9223372036854775808:=rfl
 have h2:IntKind.i64.max=9223372036854775807:=rfl
 rw[h1,h2]at h
 unfold InI
 constructor<;>omega
theorem has_iR {cs:List AV} (h:HasL tI cs) : ∃ n,cs=encInt n∧InI n:=by obtain ⟨n,rfl,hw⟩:=h;exact ⟨n,rfl,wf_InR hw⟩
theorem has_intsR {cs:List AV} (h:HasL (.sl tI) cs) : ∃ l:List Int,cs=[.sl true (l.map encInt)]∧l.length<9223372036854775808 ∧ ∀ v∈l,InI v:=has_slR (fun _=>has_iR) h
end Go.Eng

namespace Go.Eng
open F
attribute [local irreducible] AKM CmpP Req OpP UnP ConvP RdP LdR StR MkR LenP AppR AppN CpyR RowP SnR Bds SlS CallP CalP FinP pw LdM GetM SetM PutM MkM AppM SnM FlP CallR
set_option maxHeartbeats 8000000
variable {L:Lib}
theorem ev_Mod (N:MakGLib L) (a m:Int) (ha:InI a) (hm:1≤m∧m≤1000000):Ev L 224 [.int .i64 a,.int .i64 m] (.int .i64 (a%m)):=by
 unfold InI at ha
 have h1:=Int.emod_nonneg a (show m≠0 by omega)
 have h2:=Int.emod_lt_of_pos a (show 0<m by omega)
 refine Ev.x N.make_Mod rfl rfl ?_
 (repeat' (first|(refine CmpP.go (fun hc => ?_) (fun hc => ?_)<;>first|(exfalso;omega)|(conv=>whnf))|(refine OpP.add ?_ ?_;omega;conv=>whnf)|(refine OpP.rem ?_ (fun _ _ _ => ?_) (fun _ _ _ _ => ?_);omega;all_goals first|(exfalso;omega)|(conv=>whnf))|(refine AKM.x ?_;conv=>whnf)))
 all_goals exact FinP.i (by omega)
abbrev eM (m:List (List Rat)):List (List AV):=m.map fun r=>[AV.sl false (r.map eQ)]
theorem cl_eM (m:List (List Rat)):CleanLL (eM m):=cleanLL_map (fun r=>by simp only[CleanL,Clean,and_true,true_and];exact cl_eQs r) m
theorem cl_mat (m:List (List Rat)):Clean (.sl false (eM m)):=by
 simp only[Clean,true_and]
 exact cl_eM m
theorem bt_frac {x y:Int} (hx : -4≤x∧x≤4) (hy:1≤y∧y≤3):Bt 2 (Rat.divInt x y):=by
 obtain ⟨d,rfl⟩ : ∃ d:Nat,y=d:=⟨y.toNat,by omega⟩
 rw[Rat.divInt_ofNat]
 exact Bt.mk (show x.natAbs≤4 by omega) (show d≤4 by omega)
theorem bs_snoc {k:Nat} {w:List Rat} {x:Rat} (h:Bs k w) (hx:Bt k x):Bs k (w++[x]):=fun y hy=>by
 rcases List.mem_append.1 hy with hy|hy
 ·exact h y hy
 ·obtain rfl:=List.mem_singleton.1 hy;exact hx
theorem ev_Matrix (N:MakGLib L) (q:Bool) (l:List Int) (hl:l.length<9223372036854775808) (hv : ∀ v∈l,InI v) (r c:Nat) (hr:r≤16) (hc:c≤16) :
  ∃ m:List (List Rat),m.length=r∧(∀ w∈m,w.length=c)∧Ms 2 m∧Ev L 226 [.sl q (l.map encInt),.int .i64 r,.int .i64 c] (.sl false (m.map fun r=>[AV.sl false (r.map eQ)])):=by
 suffices h : ∃ v,Ev L 226 [.sl q (l.map encInt),.int .i64 r,.int .i64 c] v ∧ ∃ m:List (List Rat),v = .sl false (m.map fun r=>[AV.sl false (r.map eQ)])∧m.length=r∧(∀ w∈m,w.length=c)∧Ms 2 m by
  obtain ⟨v,h1,m,rfl,h2,h3,h4⟩:=h
  exact ⟨m,h2,h3,h4,h1⟩
 refine Ev.xE N.make_Matrix rfl rfl ?_
 refine AKM.xf 10 ?_
 (conv=>whnf)
 refine AKM.mx0 8 8 rfl ?_
 (repeat' (refine AKM.x ?_;conv=>whnf))
 refine AKM.loop3 (fun _ n _=>r-n) (fun (m:List (List Rat)) (n t:Nat)=>m.length=n∧n≤r∧t≤32*n∧(∀ w∈m,w.length=c)∧Ms 2 m) (fun m n _=>[(9,.int .i64 n),(8,.row 8 0 1 0 n)]) (fun m _ t=>[(8,8,.mx (mxR 3 eQ m)),(14,14,.bx [.sl q (l.map encInt),.int .i64 (t:Nat)])]) [] [] [] 0 0 (by (conv=>whnf);exact ⟨rfl,rfl,rfl⟩) ⟨rfl,by omega,by omega,by simp,fun _ h=>by cases h⟩ ?_
 intro m n t p mh
 obtain ⟨p0,p1,p2,p3,p4⟩:=p
 by_cases hm:n<r
 ·(repeat' (first|(refine CmpP.go (fun hc => ?_) (fun hc => ?_)<;>first|(exfalso;omega)|(conv=>whnf))|(refine AKM.x ?_;conv=>whnf)))
  refine AKM.loop3 (fun _ k _=>c-k) (fun (w:List Rat) (k t:Nat)=>w.length=k∧k≤c∧t≤32*n+2*k∧Bs 2 w) (fun w k _=>[(11,.int .i64 k),(10,.row 10 0 3 0 k)]) (fun w _ t=>[(10,10,.rw 3 (w.map eQ)),(14,14,.bx [.sl q (l.map encInt),.int .i64 (t:Nat)])]) [] [] [] 0 t (by (conv=>whnf);exact ⟨rfl,rfl,rfl⟩) ⟨rfl,by omega,by omega,fun _ h=>by cases h⟩ ?_
  intro w k u p wh
  obtain ⟨p5,p6,p7,p8⟩:=p
  by_cases hw:k<c
  ·(repeat' (first|(refine CmpP.go (fun hc => ?_) (fun hc => ?_)<;>first|(exfalso;omega)|(conv=>whnf))|(refine AKM.x ?_;conv=>whnf)))
   refine CalP.walk 1000 N.make_Tape_Next rfl rfl ?_
   (repeat' (first|(refine CmpP.go (fun hc => ?_) (fun hc => ?_)<;>first|(exfalso;omega)|(conv=>whnf))|(refine OpP.add ?_ ?_;omega;conv=>whnf)|(refine OpP.sub ?_ ?_;omega;conv=>whnf)|(refine LenP.go ?_;conv=>whnf)|(refine RdP.go ?_ (fun _=>rfl) (fun e he => ?_);omega;conv=>whnf)|(refine AKM.x ?_;conv=>whnf)))
   ·refine ⟨rfl,_,rfl,?_⟩
    (conv=>whnf)
    (repeat' (refine OpP.sub ?_ ?_;omega;conv=>whnf))
    refine CalP.walk 1000 N.make_Tape_Next rfl rfl ?_
    (repeat' (first|(refine CmpP.go (fun hc => ?_) (fun hc => ?_)<;>first|(exfalso;omega)|(conv=>whnf))|(refine LenP.go ?_;conv=>whnf)|(refine AKM.x ?_;conv=>whnf)))
    refine ⟨rfl,_,rfl,?_⟩
    (conv=>whnf)
    (repeat' (refine OpP.add ?_ ?_;omega;conv=>whnf))
    have hF:=ev_r3_Frac N.toRefGLib (0-4) (1+0) (by omega) (by omega)
    have hbt:=bt_frac (x:=0-4) (y:=1+0) (by omega) (by omega)
    (repeat' (first|(refine RowP.e1 ?_;conv=>whnf)|(refine CallP.go (hF) ?_;conv=>whnf)))
    refine AppR.one (enc:=eQ) (Rat.divInt (0-4) (1+0)) rfl p5.symm rfl (by omega) (by omega) ?_
    rw[show (w++[Rat.divInt (0-4) (1+0)]).length=k+1 by simp [p5]]
    (conv=>whnf)
    (repeat' (refine OpP.add ?_ ?_;omega;conv=>whnf))
    exact AKM.back [(10,34)] (by (conv=>whnf);exact ⟨rfl,rfl,rfl⟩) (wh (w++[Rat.divInt (0-4) (1+0)]) (k+1) (u) (by omega) ⟨by simp [p5],by omega,by omega,bs_snoc p8 hbt⟩)
   ·have h0:=he
    have hM:=ev_Mod N e 9 (hv e (List.mem_of_getElem? he)) (by omega)
    have hm1:=Int.emod_nonneg e (show (9:Int)≠0 by omega)
    have hm2:=Int.emod_lt_of_pos e (show (0:Int)<9 by omega)
    generalize e%9=z at *
    (repeat' (refine CallP.go (hM) ?_;conv=>whnf))
    refine ⟨rfl,_,rfl,?_⟩
    (conv=>whnf)
    (repeat' (refine OpP.sub ?_ ?_;omega;conv=>whnf))
    refine CalP.walk 1000 N.make_Tape_Next rfl rfl ?_
    (repeat' (first|(refine CmpP.go (fun hc => ?_) (fun hc => ?_)<;>first|(exfalso;omega)|(conv=>whnf))|(refine OpP.add ?_ ?_;omega;conv=>whnf)|(refine OpP.sub ?_ ?_;omega;conv=>whnf)|(refine LenP.go ?_;conv=>whnf)|(refine RdP.go ?_ (fun _=>rfl) (fun e he => ?_);omega;conv=>whnf)|(refine AKM.x ?_;conv=>whnf)))
    ·refine ⟨rfl,_,rfl,?_⟩
     (conv=>whnf)
     (repeat' (refine OpP.add ?_ ?_;omega;conv=>whnf))
     have hF:=ev_r3_Frac N.toRefGLib (z-4) (1+0) (by omega) (by omega)
     have hbt:=bt_frac (x:=z-4) (y:=1+0) (by omega) (by omega)
     (repeat' (first|(refine RowP.e1 ?_;conv=>whnf)|(refine CallP.go (hF) ?_;conv=>whnf)))
     refine AppR.one (enc:=eQ) (Rat.divInt (z-4) (1+0)) rfl p5.symm rfl (by omega) (by omega) ?_
     rw[show (w++[Rat.divInt (z-4) (1+0)]).length=k+1 by simp [p5]]
     (conv=>whnf)
     (repeat' (refine OpP.add ?_ ?_;omega;conv=>whnf))
     exact AKM.back [(10,34)] (by (conv=>whnf);exact ⟨rfl,rfl,rfl⟩) (wh (w++[Rat.divInt (z-4) (1+0)]) (k+1) (u+1) (by omega) ⟨by simp [p5],by omega,by omega,bs_snoc p8 hbt⟩)
    ·have hM':=ev_Mod N e 3 (hv e (List.mem_of_getElem? he)) (by omega)
     have hm3:=Int.emod_nonneg e (show (3:Int)≠0 by omega)
     have hm4:=Int.emod_lt_of_pos e (show (0:Int)<3 by omega)
     generalize e%3=y at *
     (repeat' (refine CallP.go (hM') ?_;conv=>whnf))
     refine ⟨rfl,_,rfl,?_⟩
     (conv=>whnf)
     (repeat' (refine OpP.add ?_ ?_;omega;conv=>whnf))
     have hF:=ev_r3_Frac N.toRefGLib (z-4) (1+y) (by omega) (by omega)
     have hbt:=bt_frac (x:=z-4) (y:=1+y) (by omega) (by omega)
     (repeat' (first|(refine RowP.e1 ?_;conv=>whnf)|(refine CallP.go (hF) ?_;conv=>whnf)))
     refine AppR.one (enc:=eQ) (Rat.divInt (z-4) (1+y)) rfl p5.symm rfl (by omega) (by omega) ?_
     rw[show (w++[Rat.divInt (z-4) (1+y)]).length=k+1 by simp [p5]]
     (conv=>whnf)
     (repeat' (refine OpP.add ?_ ?_;omega;conv=>whnf))
     exact AKM.back [(10,34)] (by (conv=>whnf);exact ⟨rfl,rfl,rfl⟩) (wh (w++[Rat.divInt (z-4) (1+y)]) (k+1) (u+1+1) (by omega) ⟨by simp [p5],by omega,by omega,bs_snoc p8 hbt⟩)
  ·obtain rfl:k=c:=by omega
   clear wh
   (repeat' (first|(refine CmpP.go (fun hc => ?_) (fun hc => ?_)<;>first|(exfalso;omega)|(conv=>whnf))|(refine AKM.x ?_;conv=>whnf)))
   refine Req.go (by rw[List.length_map,p5]) ?_
   refine AppM.go (r:=w) (en:=eQ) p0.symm (by omega) (by omega) ?_
   rw[show (m++[w]).length=n+1 by simp [p0]]
   (conv=>whnf)
   (repeat' (refine OpP.add ?_ ?_;omega;conv=>whnf))
   refine AKM.back [(8,38)] (by (conv=>whnf);exact ⟨rfl,rfl,rfl⟩) (mh (m++[w]) (n+1) u (by omega) ⟨by simp [p0],by omega,by omega,?_,?_⟩)
   ·intro x hx
    rcases List.mem_append.1 hx with hx|hx
    ·exact p3 x hx
    ·obtain rfl:=List.mem_singleton.1 hx;exact p5
   ·intro x hx
    rcases List.mem_append.1 hx with hx|hx
    ·exact p4 x hx
    ·obtain rfl:=List.mem_singleton.1 hx;exact p8
 ·obtain rfl:n=r:=by omega
  clear mh
  (repeat' (first|(refine CmpP.go (fun hc => ?_) (fun hc => ?_)<;>first|(exfalso;omega)|(conv=>whnf))|(refine AKM.x ?_;conv=>whnf)))
  refine ⟨.sl false (m.map fun r=>[AV.sl false (r.map eQ)]),?_,m,rfl,p0,p3,p4⟩
  (conv=>whnf)
  refine SnM.all (fun _=>rfl) rfl p0.symm ?_
  (conv=>whnf)
  exact FinP.go rfl (cl_mat m)
end Go.Eng

namespace Go.Eng
variable {L:Lib}
theorem AKM.unview {kk:List It} {tm:Tm} {M:Mem} {Q:Tm→Mem→Prop} {k s:Nat} {rows:List (Option (Nat × List (List AV)))} {w:List Nat} (rows':List (Option (Nat × List (List AV)))) (e:mget M k=some (s,.vw w rows)) (hl:rows'.length=w.length)
  (hw : ∀ (i t:Nat),w[i]? = some t → ∃ r,rows[t]? = some r∧rows'[i]? = some r) (hi : ∀ (i i' t:Nat),w[i]? = some t→w[i']? = some t→i=i') (hct:chT k tm=false) (hcm:chM k M=false)
  (h:AKM L kk tm ((k,s,.mx rows')::M) Q):AKM L kk tm M Q:=by
 intro σ st hr
 obtain ⟨σ',hr'⟩:=hr.unview e hl hw hi hct hcm
 exact h σ' st hr'
theorem AKM.swap {kk:List It} {tm:Tm} {M:Mem} {Q:Tm→Mem→Prop} {k s i j:Nat} {rows:List (Option (Nat × List (List AV)))} {a b:Option (Nat × List (List AV))} (e:mget M k=some (s,.vw (((List.range rows.length).set i j).set j i) rows)) (ha:rows[i]? = some a) (hb:rows[j]? = some b) (hct:chT k tm=false) (hcm:chM k M=false)
  (h:AKM L kk tm ((k,s,.mx ((rows.set i b).set j a))::M) Q):AKM L kk tm M Q:=by
 have hi:=(List.getElem?_eq_some_iff.1 ha).1
 have hj:=(List.getElem?_eq_some_iff.1 hb).1
 have hwi : ∀ p,p<rows.length→(((List.range rows.length).set i j).set j i)[p]? = some (if p=j then i else if p=i then j else p):=fun p hp=>by
  rw[List.getElem?_set,List.getElem?_set,List.length_set,List.length_range]
  by_cases h1:j=p
  ·subst h1;simp [hp]
  ·rw[if_neg h1,if_neg (Ne.symm h1)]
   by_cases h2:i=p
   ·subst h2;simp [hp]
   ·rw[if_neg h2,if_neg (Ne.symm h2),List.getElem?_range hp]
 have hwl : ∀ p t,(((List.range rows.length).set i j).set j i)[p]? = some t→p<rows.length:=fun p t hp=>by
  have:=(List.getElem?_eq_some_iff.1 hp).1
  simpa using this
 refine AKM.unview ((rows.set i b).set j a) e (by simp) (fun p t hp => ?_) (fun p p' t hp hp' => ?_) hct hcm h
 ·have hpl:=hwl p t hp
  rw[hwi p hpl]at hp
  obtain rfl:=Option.some.inj hp
  rw[List.getElem?_set,List.getElem?_set,List.length_set]
  by_cases h1:p=j
  ·subst h1
   exact ⟨a,by rw[if_pos rfl];exact ha,by rw[if_pos rfl,if_pos hpl]⟩
  ·rw[if_neg h1,if_neg (Ne.symm h1)]
   by_cases h2:p=i
   ·subst h2
    exact ⟨b,by rw[if_pos rfl];exact hb,by rw[if_pos rfl,if_pos hpl]⟩
   ·rw[if_neg h2,if_neg (Ne.symm h2)]
    exact ⟨_,List.getElem?_eq_getElem hpl,List.getElem?_eq_getElem hpl⟩
 ·have hpl:=hwl p t hp
  have hpl':=hwl p' t hp'
  rw[hwi p hpl]at hp
  rw[hwi p' hpl']at hp'
  have:=Option.some.inj (hp.trans hp'.symm)
  split at this<;>split at this<;>(try split at this)<;>(try split at this)<;>omega
end Go.Eng

namespace Go.Eng
open F
attribute [local irreducible] AKM CmpP Req OpP UnP ConvP RdP LdR StR MkR LenP AppR AppN CpyR RowP SnR Bds SlS CallP CalP FinP pw LdM GetM SetM PutM MkM AppM SnM FlP CallR
set_option maxHeartbeats 16000000
variable {L:Lib}
abbrev eMq (q:Bool) (m:List (List Rat)):List (List AV):=m.map fun r=>[AV.sl q (r.map eQ)]
theorem cl_matT (m:List (List Rat)) (e:Int):Clean (.tup [.sl false (eM m),.int .i64 e]):=by
 simp only[Clean,CleanL,and_true,true_and]
 exact cl_eM m
theorem ev_lValid (N:MatGLib L) (q q':Bool) (a:List (List Rat)) (n w:Nat) (hn:a.length=n) (hw : ∀ r∈a,r.length=w) (h1:1≤n∧n≤52) (h2:1≤w∧w≤52):Ev L 229 [.sl q (eMq q' a)] (.bool true):=by
 obtain ⟨r0,hr0⟩ : ∃ r,a[0]? = some r:=⟨_,List.getElem?_eq_getElem (by omega)⟩
 have hr0':a[(0:Int).toNat]? = some r0:=hr0
 have hl0:=hw r0 (List.mem_of_getElem? hr0)
 refine Ev.x N.linear_Valid rfl rfl ?_
 (repeat' (first|(refine CmpP.go (fun hc => ?_) (fun hc => ?_)<;>first|(exfalso;omega)|(conv=>whnf))|(refine LenP.go ?_;conv=>whnf)|(refine RdP.at (by assumption) ?_ rfl ?_;omega;conv=>whnf)|(refine AKM.x ?_;conv=>whnf)))
 refine AKM.loop1 (fun i=>n-i) (fun (i:Nat)=>i≤n) (fun i=>[(20,.int .i64 i)]) (fun _=>[]) [] [] 0 (by (conv=>whnf);exact ⟨rfl,rfl,rfl⟩) (by omega) ?_
 intro i p1 ih
 by_cases hi:i<n
 ·obtain ⟨r,hr⟩ : ∃ r,a[i]? = some r:=⟨_,List.getElem?_eq_getElem (by omega)⟩
  have hr':a[(i:Int).toNat]? = some r:=hr
  have hl:=hw r (List.mem_of_getElem? hr)
  (repeat' (first|(refine CmpP.go (fun hc => ?_) (fun hc => ?_)<;>first|(exfalso;omega)|(conv=>whnf))|(refine OpP.add ?_ ?_;omega;conv=>whnf)|(refine LenP.go ?_;conv=>whnf)|(refine RdP.at (by assumption) ?_ rfl ?_;omega;conv=>whnf)|(refine AKM.x ?_;conv=>whnf)))
  exact AKM.back [] (by (conv=>whnf);exact ⟨rfl,rfl,rfl⟩) (ih (i+1) (by omega) (by omega))
 ·obtain rfl:i=n:=by omega
  clear ih
  (repeat' (first|(refine CmpP.go (fun hc => ?_) (fun hc => ?_)<;>first|(exfalso;omega)|(conv=>whnf))|(refine AKM.x ?_;conv=>whnf)))
  exact FinP.b rfl
theorem ev_lIdentity (N:MatGLib L) (n:Nat) (hn:1≤n∧n≤52):Ev L 230 [.int .i64 n] (.tup [.sl false (eM (idQ n)),.int .i64 0]):=by
 have hO:=ev_rational_Of N.toRatGLib 0 (by omega)
 have hI:=ev_rational_Of N.toRatGLib 1 (by omega)
 have hat : ∀ i,i<n→(idQ n)[i]? = some (unitL n i):=fun i hi=>by simp [idQ,hi]
 have htl:(idQ n).length=n:=by simp [idQ]
 generalize hT:idQ n=T at *
 refine Ev.x N.linear_Identity rfl rfl ?_
 (repeat' (first|(refine CmpP.go (fun hc => ?_) (fun hc => ?_)<;>first|(exfalso;omega)|(conv=>whnf))|(refine AKM.x ?_;conv=>whnf)))
 unfold MkM
 refine ⟨⟨by omega,by omega,by simp only[roomMax];omega,by omega⟩,?_⟩
 rw[Int.toNat_natCast]
 (conv=>whnf)
 skip
 refine AKM.loop1 (fun i=>n-i) (fun (i:Nat)=>i≤n) (fun i=>[(17,.int .i64 i)]) (fun i=>[(14,14,.mx (mz T n i))]) [] [] 0 (by first|exact (by (conv=>whnf);exact ⟨rfl,rfl,rfl⟩)|(rw[←mz_zero T];exact (by (conv=>whnf);exact ⟨rfl,rfl,rfl⟩))) (by omega) ?_
 intro i p1 ih
 have hzl:=mz_len (Q:=T) p1
 by_cases hi:i<n
 ·have hst:=mz_set (hat i hi) hi
  generalize mz T n i=R0 at *
  (repeat' (first|(refine CmpP.go (fun hc => ?_) (fun hc => ?_)<;>first|(exfalso;omega)|(conv=>whnf))|(refine AKM.x ?_;conv=>whnf)))
  refine MkR.go (enc:=eO) none n rfl (by omega) (by omega) ?_
  (conv=>whnf)
  (repeat' (first|(refine Req.go ?_ ?_;omega;conv=>whnf)|fail))
  refine Req.go (by simp) ?_
  refine SetM.fz (i:=i) (by omega) (by omega) ?_
  (conv=>whnf)
  (repeat' (first|(refine Req.go ?_ ?_;omega;conv=>whnf)|fail))
  refine LdM.st (by omega) (by omega) ?_
  (conv=>whnf)
  skip
  rw[show (List.map eO (List.replicate n none)).length=n by simp]
  refine AKM.loop1 (fun j=>n-j) (fun (j:Nat)=>j≤n) (fun j=>[(30,.int .i64 j)]) (fun j=>[(14,14,.mx (R0.set i (some (3,(fillO (List.replicate j 0) n).map eO))))]) [] [] 0 (by first|exact (by (conv=>whnf);exact ⟨rfl,rfl,rfl⟩)|(rw[List.replicate_zero,←fillO_nil];exact (by (conv=>whnf);exact ⟨rfl,rfl,rfl⟩))) (by omega) ?_
  intro j r2 jh
  have htj:(List.replicate j (0:Rat)).length=j:=by simp
  have hlf:=fillO_len (l:=List.replicate j (0:Rat)) (m:=n) (by omega)
  by_cases hj:j<n
  ·have hs:=fillO_set (l:=List.replicate j (0:Rat)) (m:=n) (x:=((0:Int):Rat)) (by omega)
   rw[htj,show List.replicate j (0:Rat)++[((0:Int):Rat)]=List.replicate (j+1) 0 from List.replicate_succ'.symm]at hs
   generalize fillO (List.replicate j (0:Rat)) n=W at *
   (repeat' (first|(refine CmpP.go (fun hc => ?_) (fun hc => ?_)<;>first|(exfalso;omega)|(conv=>whnf))|(refine Req.go ?_ ?_;omega;conv=>whnf)|(refine AKM.x ?_;conv=>whnf)))
   refine LdM.st (by omega) (by omega) ?_
   (conv=>whnf)
   (repeat' (refine CallP.go (hO) ?_;conv=>whnf))
   refine Req.go (by rw[List.length_map];omega) ?_
   (conv=>whnf)
   skip
   refine GetM.st (by omega) (by omega) ?_
   (conv=>whnf)
   refine StR.nat (enc:=eO) (some ((0:Int):Rat)) rfl (fun e=>by cases e<;>rfl) (by omega) ?_
   (conv=>whnf)
   rw[hs]
   refine PutM.st (by omega) (by rw[List.length_map,List.length_map,←hs,List.length_set]) ?_
   (conv=>whnf)
   (repeat' (refine OpP.add ?_ ?_;omega;conv=>whnf))
   exact AKM.back [] (by (conv=>whnf);exact ⟨rfl,rfl,rfl⟩) (jh (j+1) (by omega) (by omega))
  obtain rfl:j=n:=by omega
  clear jh
  rw[fillO_full (by omega)]
  (repeat' (first|(refine CmpP.go (fun hc => ?_) (fun hc => ?_)<;>first|(exfalso;omega)|(conv=>whnf))|(refine Req.go ?_ ?_;omega;conv=>whnf)|(refine AKM.x ?_;conv=>whnf)))
  refine LdM.st (by omega) (by omega) ?_
  (conv=>whnf)
  (repeat' (refine CallP.go (hI) ?_;conv=>whnf))
  refine Req.go (by rw[List.length_map];omega) ?_
  (conv=>whnf)
  skip
  refine GetM.st (by omega) (by omega) ?_
  (conv=>whnf)
  refine StR.nat (enc:=eQ) ((1:Int):Rat) rfl (fun _=>rfl) (by omega) ?_
  rw[show (List.replicate j (0:Rat)).set i ((1:Int):Rat)=unitL j i from unit_set j i]
  (conv=>whnf)
  refine PutM.st (by omega) (by rw[List.length_map,List.length_map,unitL_len,htj]) ?_
  rw[hst]
  (conv=>whnf)
  (repeat' (refine OpP.add ?_ ?_;omega;conv=>whnf))
  exact AKM.back [] (by (conv=>whnf);exact ⟨rfl,rfl,rfl⟩) (ih (i+1) (by omega) (by omega))
 ·obtain rfl:i=n:=by omega
  clear ih
  rw[mz_full (by omega)]
  (repeat' (first|(refine CmpP.go (fun hc => ?_) (fun hc => ?_)<;>first|(exfalso;omega)|(conv=>whnf))|(refine AKM.x ?_;conv=>whnf)))
  refine SnM.all (fun _=>rfl) rfl (by omega) ?_
  (conv=>whnf)
  exact FinP.go rfl (cl_matT T 0)
def encP (p:Bool × List Rat):List AV:=[.sl p.1 (p.2.map eQ)]
def flatP (P:List (Bool × List Rat)) (i:Nat):List Rat:=((P.take i).map Prod.snd).flatten
theorem flatP_succ {P:List (Bool × List Rat)} {i:Nat} {p:Bool × List Rat} (h:P[i]? = some p):flatP P (i+1)=flatP P i++p.2:=by
 simp only[flatP,List.take_add_one,h,Option.toList_some,List.map_append,List.map_cons,List.map_nil,List.flatten_append,List.flatten_cons,List.flatten_nil,List.append_nil]
theorem ev_ConcatP (N:MatGLib L) (q:Bool) (P:List (Bool × List Rat)) (n:Nat) (hn:P.length=n) (hn2:n≤100) (hB : ∀ i,(flatP P i).length≤2000) (h0:0<(flatP P n).length):Ev L 228 [.sl q (P.map encP)] (.sl false ((flatP P n).map eQ)):=by
 refine Ev.x N.slices_Concat_api_Rat_api_Rat rfl rfl ?_
 (repeat' (first|(refine LenP.go ?_;conv=>whnf)|(refine AKM.x ?_;conv=>whnf)))
 refine AKM.loop1 (fun i=>n-i) (fun (i:Nat)=>i≤n) (fun i=>[(11,.int .i64 i),(3,.int .i64 (flatP P i).length)]) (fun _=>[]) [] [] 0 (by (conv=>whnf);exact ⟨rfl,rfl,rfl⟩) (by omega) ?_
 intro i p1 ih
 by_cases hi:i<n
 ·obtain ⟨p,hp⟩ : ∃ p,P[i]? = some p:=⟨_,List.getElem?_eq_getElem (by omega)⟩
  have hp':P[(i:Int).toNat]? = some p:=hp
  have hs:=flatP_succ hp
  have hb:=hB i
  have hb1:=hB (i+1)
  have hl:(flatP P (i+1)).length=(flatP P i).length+p.2.length:=by rw[hs,List.length_append]
  (repeat' (first|(refine CmpP.go (fun hc => ?_) (fun hc => ?_)<;>first|(exfalso;omega)|(conv=>whnf))|(refine OpP.add ?_ ?_;omega;conv=>whnf)|(refine LenP.go ?_;conv=>whnf)|(refine RdP.at (by assumption) ?_ rfl ?_;omega;conv=>whnf)|(refine AKM.x ?_;conv=>whnf)))
  rw[show ((flatP P i).length:Int)+(p.2.length:Int)=((flatP P (i+1)).length:Nat) by rw[hl];omega]
  exact AKM.back [] (by (conv=>whnf);exact ⟨rfl,rfl,rfl⟩) (ih (i+1) (by omega) (by omega))
 ·obtain rfl:i=n:=by omega
  clear ih
  have hb:=hB i
  (repeat' (first|(refine CmpP.go (fun hc => ?_) (fun hc => ?_)<;>first|(exfalso;omega)|(conv=>whnf))|(refine AKM.x ?_;conv=>whnf)))
  refine CalP.walk 1000 N.slices_Grow_api_Rat_api_Rat rfl rfl ?_
  (repeat' (first|(refine CmpP.go (fun hc => ?_) (fun hc => ?_)<;>first|(exfalso;omega)|(conv=>whnf))|(refine Req.go ?_ ?_;omega;conv=>whnf)|(refine OpP.sub ?_ ?_;omega;conv=>whnf)|(refine AKM.x ?_;conv=>whnf)))
  refine Req.go ⟨by omega,by simp only[roomMax];omega,by omega⟩ ?_
  (conv=>whnf)
  refine Bds.ns ⟨by omega,by omega⟩ ?_
  (conv=>whnf)
  skip
  refine ⟨rfl,_,rfl,?_⟩
  (conv=>whnf)
  (repeat' (refine LenP.go ?_;conv=>whnf))
  refine AKM.loop1 (fun j=>i-j) (fun (j:Nat)=>j≤i) (fun j=>[(27,.int .i64 j),(6,.row 227022 0 3 0 (flatP P j).length)]) (fun j=>[(227022,227022,.rw 3 ((flatP P j).map eQ))]) [] [] 0 (by (conv=>whnf);exact ⟨rfl,rfl,rfl⟩) (by omega) ?_
  intro j p2 jh
  by_cases hj:j<i
  ·obtain ⟨p,hp⟩ : ∃ p,P[j]? = some p:=⟨_,List.getElem?_eq_getElem (by omega)⟩
   have hp':P[(j:Int).toNat]? = some p:=hp
   have hs:=flatP_succ hp
   have hb:=hB j
   have hb1:=hB (j+1)
   have hl:(flatP P (j+1)).length=(flatP P j).length+p.2.length:=by rw[hs,List.length_append]
   (repeat' (first|(refine CmpP.go (fun hc => ?_) (fun hc => ?_)<;>first|(exfalso;omega)|(conv=>whnf))|(refine RdP.at (by assumption) ?_ rfl ?_;omega;conv=>whnf)|(refine AKM.x ?_;conv=>whnf)))
   refine AppR.many rfl (fun _=>rfl) (by omega) (by omega) ?_
   rw[←hs]
   (conv=>whnf)
   (repeat' (refine OpP.add ?_ ?_;omega;conv=>whnf))
   exact AKM.back [(227022,33)] (by (conv=>whnf);exact ⟨rfl,rfl,rfl⟩) (jh (j+1) (by omega) (by omega))
  ·obtain rfl:j=i:=by omega
   clear jh
   (repeat' (first|(refine CmpP.go (fun hc => ?_) (fun hc => ?_)<;>first|(exfalso;omega)|(conv=>whnf))|(refine SnR.all (fun _=>rfl) rfl ?_ ?_;(first|rfl|simp);conv=>whnf)|(refine AKM.x ?_;conv=>whnf)))
   exact FinP.go rfl (by simp only[Clean,true_and];exact cl_eQs _)
theorem ev_Concat (N:MatGLib L) (q q1 q2:Bool) (a b:List Rat) (ha:a.length≤1000) (hb:b.length≤1000) (h0:0<a.length):Ev L 228 [.sl q [[.sl q1 (a.map eQ)],[.sl q2 (b.map eQ)]]] (.sl false ((a++b).map eQ)):=by
 have:=ev_ConcatP N q [(q1,a),(q2,b)] 2 rfl (by omega) (fun i=>by
  rcases i with _|_|_|i<;>simp [flatP]<;>omega) (by simp [flatP];omega)
 simpa [flatP,encP] using this
end Go.Eng
