/-
  Rational numbers (layer 3).
-/
import Derived.Test.YtdgodemmncmlaaaGreatB9
import Derived.Test.YtdgodemmncmlaaaGreatB7
import Derived.Test.YtdgodemmncmlaaaGreatB4
import Derived.Test.YtdgodemmncmlaaaGreatB3
import Derived.Test.YtdgodemmncmlaaaGreatB1
set_option linter.unusedSimpArgs false
set_option linter.unusedVariables false
set_option linter.unnecessarySimpa false
namespace Go.Eng
open F
attribute [local irreducible] AKM CmpP Req OpP UnP ConvP RdP LdR StR MkR LenP AppR AppN CpyR RowP SnR Bds SlS CallP CalP FinP pw LdM GetM SetM PutM MkM AppM SnM FlP CallR
set_option maxHeartbeats 4000000
variable {L:Lib}
theorem dg_one:dg 1=[1]:=by rw[dg_pos (by omega)];simp [dg_zero]
theorem ev_isOne (N:RatGLib L) (V:Nat) (q:Bool):Ev L 90 [.sl q ((dg V).map e32)] (.bool (decide (V=1))):=by
 have hv:=val_dg V
 have hD:=dig_dg V
 have h1:V=1→dg V=[1]:=fun h=>by rw[h,dg_one]
 generalize dg V=l at *
 refine Ev.x N.rational_isOne rfl rfl ?_
 by_cases hl:l.length=1
 ·obtain ⟨d,rfl⟩:=List.length_eq_one_iff.1 hl
  have e:V=d:=by rw[←hv];simp [val]
  subst e
  have hd:[V][(0:Int).toNat]? = some V:=rfl
  (repeat' (first|(refine CmpP.go (fun hc => ?_) (fun hc => ?_)<;>first|(exfalso;omega)|(conv=>whnf))|(refine LenP.go ?_;conv=>whnf)|(refine RdP.at (by assumption) ?_ rfl ?_;omega;conv=>whnf)|(refine AKM.x ?_;conv=>whnf)))
  ·exact FinP.dt (by omega)
  ·exact FinP.df (by omega)
 ·(repeat' (first|(refine CmpP.go (fun hc => ?_) (fun hc => ?_)<;>first|(exfalso;omega)|(conv=>whnf))|(refine LenP.go ?_;conv=>whnf)|(refine AKM.x ?_;conv=>whnf)))
  exact FinP.df (fun h=>by rw[h1 h]at hl;simp at hl)
theorem ev_lowest (N:RatGLib L) (n q1 q2:Bool) (m d:List Nat) (hm:Sm 549755813888 m) (hd:Sm 549755813888 d) (h0:val d≠0):Ev L 94 [.agg (rQ q1 q2 n m d)] (.agg (eQ (qv n m d))):=by
 have hDM:=fun q q'=>ev_nat_DivMod N.toNatGLib m d q q' hm.1 hd.1 hm.2 hd.2 h0
 have hza:=zv_abs n m
 have sq:Sm 549755813888 (dg (val m/val d)):=hm.low (Nat.div_le_self _ _)
 have sr:Sm 549755813888 (dg (val m%val d)):=hd.low (Nat.le_of_lt (Nat.mod_lt _ (by omega)))
 have hT:=fun q=>ev_integer_Trim N n q _ sq
 have hG:=fun q q'=>ev_nat_Gcd N.toNatGLib d (dg (val m%val d)) q q' hd.1 sr.1 hd.2 sr.2
 rw[val_dg,show Nat.gcd (val d) (val m%val d)=Nat.gcd (val d) (zv n m).natAbs by rw[hza,gcd_mod_step,Nat.gcd_comm]]at hG
 have hgp:=gcd_pos' (zv n m).natAbs h0
 have hgd:=Nat.gcd_le_left (zv n m).natAbs (show 0<val d by omega)
 have hz:=dg_len0 (val m%val d)
 obtain ⟨e1,e2,e3⟩:=mk_parts (z:=zv n m) h0
 unfold qv
 generalize hGG:Nat.gcd (val d) (zv n m).natAbs=g at *
 have h1:=fun q=>ev_isOne N g q
 refine Ev.x N.rational_pair_lowest rfl rfl ?_
 by_cases hr0:val m%val d=0
 ·(repeat' (first|(refine CmpP.go (fun hc => ?_) (fun hc => ?_)<;>first|(exfalso;omega)|(conv=>whnf))|(refine LenP.go ?_;conv=>whnf)|(refine AKM.x ?_;conv=>whnf)|(refine CallP.go (hDM _ _) ?_;conv=>whnf)|(refine CallP.go (hT _) ?_;conv=>whnf)))
  refine CalP.walkC 1000 N.rational_whole rfl rfl ?_
  (repeat' (refine AKM.x ?_;conv=>whnf))
  refine ⟨rfl,?_⟩
  (conv=>whnf)
  (repeat' (refine SnR.e1 rfl ?_;conv=>whnf))
  have hge:g=val d:=by
   rw[←hGG,hza]
   exact Nat.gcd_eq_left (Nat.dvd_of_mod_eq_zero hr0)
  have hv:=val_dg (val m/val d)
  refine FinP.go ?_ ?_
  ·show _=AV.agg (rQ _ _ _ _ _)
   rw[e1,e2,e3,hza,hge,Nat.div_self (by omega),zv_abs,hv,dg_one]
   have hs:decide (zv n (dg (val m/val d))<0)=decide (zv n m<0):=by
    cases n
    ·rw[zv_F,zv_F];simp;omega
    ·rw[zv_T,zv_T,hv]
     congr 1
     rw[eq_iff_iff]
     have h5:=Nat.div_add_mod (val m) (val d)
     rw[hr0,Nat.add_zero]at h5
     constructor
     ·intro h6
      have h7:val m/val d≠0:=by omega
      have:val m≠0:=fun h8=>h7 (by rw[h8,Nat.zero_div])
      omega
     ·intro h6
      have h7:val m/val d≠0:=fun h8=>by rw[h8,Nat.mul_zero]at h5;omega
      omega
   rw[hs]
   rfl
  ·exact cl_eQ _
 ·by_cases hg1:g=1
  ·have hT1:=fun q=>ev_integer_Trim N n q m hm
   have hT2:=fun q=>ev_Trim N.toNatGLib d q hd.1 (by have:=hd.2;omega)
   (repeat' (first|(refine CmpP.go (fun hc => ?_) (fun hc => ?_)<;>first|(exfalso;omega)|(conv=>whnf))|(refine LenP.go ?_;conv=>whnf)|(refine AKM.x ?_;conv=>whnf)|(refine CallP.go (hDM _ _) ?_;conv=>whnf)|(refine CallP.go (hG _ _) ?_;conv=>whnf)|(refine CallP.b (h1 _) (fun hf => ?_) (fun hf => ?_)<;>(conv=>whnf))|(refine CallP.go (hT1 _) ?_;conv=>whnf)|(refine CallP.go (hT2 _) ?_;conv=>whnf)))
   ·refine FinP.go ?_ (cl_agg3 _ _ _)
    show _=AV.agg (rQ _ _ _ _ _)
    rw[e1,e2,e3,hg1,Nat.div_one,Nat.div_one]
   ·exact absurd hg1 hf
  ·have sg:Sm 549755813888 (dg g):=hd.low hgd
   have hD1:=fun q q'=>ev_nat_DivMod N.toNatGLib m (dg g) q q' hm.1 sg.1 hm.2 sg.2 (by rw[val_dg];omega)
   have hD2:=fun q q'=>ev_nat_DivMod N.toNatGLib d (dg g) q q' hd.1 sg.1 hd.2 sg.2 (by rw[val_dg];omega)
   rw[val_dg]at hD1 hD2
   (repeat' (first|(refine CmpP.go (fun hc => ?_) (fun hc => ?_)<;>first|(exfalso;omega)|(conv=>whnf))|(refine LenP.go ?_;conv=>whnf)|(refine AKM.x ?_;conv=>whnf)|(refine CallP.go (hDM _ _) ?_;conv=>whnf)|(refine CallP.go (hG _ _) ?_;conv=>whnf)|(refine CallP.b (h1 _) (fun hf => ?_) (fun hf => ?_)<;>(conv=>whnf))|(refine CallP.go (hD1 _ _) ?_;conv=>whnf)|(refine CallP.go (hD2 _ _) ?_;conv=>whnf)))
   ·exact absurd hf hg1
   ·refine FinP.go ?_ (cl_agg3 _ _ _)
    show _=AV.agg (rQ _ _ _ _ _)
    rw[e1,e2,e3,hza]
    have hs:n=decide (zv n m<0):=by
     have:val m≠0:=fun h=>hr0 (by rw[h,Nat.zero_mod])
     cases n
     ·exact sgn_F (by rw[zv_F];omega)
     ·exact sgn_T (by rw[zv_T];omega)
    rw[←hs]
theorem ev_natural (N:RatGLib L) (m:List Nat):Ev L 91 [.sl false (m.map e32)] (.agg [.bool false,.sl false (m.map e32)]):=by
 refine Ev.x N.rational_natural rfl rfl ?_
 (repeat' (refine AKM.x ?_;conv=>whnf))
 exact FinP.go rfl (cl_agg2 _ _)
def RdIs (n:Bool) (m d:List Nat) (n':Bool) (m' d':List Nat) (w:Bool) (k:Nat):Prop:=Sm k m'∧Sm k d'∧val d'≠0∧(w=true→val d'=1)∧qv n m d=mkRat (zv n' m') (val d')
theorem ev_read (N:RatGLib L) (n:Bool) (m d:List Nat) (k:Nat) (hk:1≤k∧k≤549755813888) (hm:Sm k m) (hd:Sm k d) : ∃ n' m' d' w,Ev L 89 [.agg (rQ false false n m d)] (.agg [.bool n',.sl false (m'.map e32),.sl false (d'.map e32),.bool w])∧RdIs n m d n' m' d' w k:=by
 have hcmp:=fun q q'=>ev_nat_Compare N.toNatGLib d [] q q' hd.1 dig_nil (by have:=hd.2;omega) (by simp)
 rw[val_nil]at hcmp
 by_cases h1:d=[1]
 ·subst h1
  refine ⟨n,m,[1],true,?_,hm,hd,by decide,fun _=>rfl,rfl⟩
  refine Ev.x N.rational_read rfl rfl ?_
  have hd:[1][(0:Int).toNat]? = some 1:=rfl
  have hll:([1]:List Nat).length=1:=rfl
  (repeat' (first|(refine CmpP.go (fun hc => ?_) (fun hc => ?_)<;>first|(exfalso;omega)|(conv=>whnf))|(refine LenP.go ?_;conv=>whnf)|(refine RdP.at (by assumption) ?_ rfl ?_;omega;conv=>whnf)|(refine AKM.x ?_;conv=>whnf)))
  exact FinP.go rfl (cl_agg4 _ _ _ _)
 have hne : ∀ x,d[(0:Int).toNat]? = some x→(d.length:Int)=1→(x:Int)≠1:=fun x hx hl h=>by
  obtain ⟨y,rfl⟩:=List.length_eq_one_iff.1 (show d.length=1 by omega)
  simp at hx
  apply h1
  congr 1
  omega
 by_cases h0:val d=0
 ·refine ⟨false,[],[1],true,?_,sm_nil _,sm_one hk.1 (by omega),by decide,fun _=>rfl,by unfold qv;rw[h0,Rat.mkRat_zero,zv_nil,Rat.zero_mkRat]⟩
  have hn:cmpS (val d) (0:Nat)=0:=(cmpS_eq (by omega)).symm
  rw[hn]at hcmp
  refine Ev.x N.rational_read rfl rfl ?_
  have hD:=hd.1
  (repeat' (first|(refine CmpP.go (fun hc => ?_) (fun hc => ?_)<;>first|(exfalso;omega)|(conv=>whnf))|(refine LenP.go ?_;conv=>whnf)|(refine RdP.digi (by assumption) ?_ (fun e he hb => ?_);omega;conv=>whnf)|(refine SnR.e1 rfl ?_;conv=>whnf)|(refine AKM.x ?_;conv=>whnf)|(refine CallP.go (hcmp _ _) ?_;conv=>whnf)))
  all_goals first
   | exact FinP.go rfl (cl_agg4 _ _ _ _)
   | exact FinP.go rfl (cl_agg4 false true [] [1])
   | exact absurd (by assumption) (hne _ he (by assumption))
 ·refine ⟨n,m,d,false,?_,hm,hd,h0,(fun h=>by cases h),rfl⟩
  have hn:cmpS (val d) (0:Nat)=1:=(cmpS_gt (by omega)).symm
  rw[hn]at hcmp
  have hD:=hd.1
  refine Ev.x N.rational_read rfl rfl ?_
  (repeat' (first|(refine CmpP.go (fun hc => ?_) (fun hc => ?_)<;>first|(exfalso;omega)|(conv=>whnf))|(refine LenP.go ?_;conv=>whnf)|(refine RdP.digi (by assumption) ?_ (fun e he hb => ?_);omega;conv=>whnf)|(refine AKM.x ?_;conv=>whnf)|(refine CallP.go (hcmp _ _) ?_;conv=>whnf)))
  all_goals first
   | exact FinP.go rfl (cl_agg4 _ _ _ _)
   | exact FinP.go rfl (cl_agg4 false true [] [1])
   | exact absurd (by assumption) (hne _ he (by assumption))
theorem ev_rational_Trim (N:RatGLib L) (n q1 q2:Bool) (m d:List Nat) (hm:Sm 549755813888 m) (hd:Sm 549755813888 d):Ev L 95 [.agg (rQ q1 q2 n m d)] (.agg (eQ (qv n m d))):=by
 obtain ⟨n',m',d',w,hr,s1,s2,s3,s4,s5⟩:=ev_read N n m d 549755813888 (by omega) hm hd
 have hl:=fun q1 q2=>ev_lowest N n' q1 q2 m' d' s1 s2 s3
 rw[s5]
 unfold qv at hl
 refine Ev.x N.rational_Trim rfl rfl ?_
 (repeat' (first|(refine FlP.n4 ?_;conv=>whnf)|(refine AKM.x ?_;conv=>whnf)|(refine CallP.go (hr) ?_;conv=>whnf)|(refine CallP.go (hl _ _) ?_;conv=>whnf)))
 exact FinP.go rfl (cl_eQ _)
theorem ev_rational_Sign (N:RatGLib L) (n q1 q2:Bool) (m d:List Nat) (hm:Sm 549755813888 m) (hd:Sm 549755813888 d):Ev L 97 [.agg (rQ q1 q2 n m d)] (.int .i64 (sgn (qv n m d).num)):=by
 obtain ⟨n',m',d',w,hr,s1,s2,s3,s4,s5⟩:=ev_read N n m d 549755813888 (by omega) hm hd
 have hl:=fun q=>ev_integer_Sign N n' q m' s1
 rw[s5,mk_sgn s3]
 refine Ev.x N.rational_Sign rfl rfl ?_
 (repeat' (first|(refine FlP.n4 ?_;conv=>whnf)|(refine AKM.x ?_;conv=>whnf)|(refine CallP.go (hr) ?_;conv=>whnf)|(refine CallP.go (hl _) ?_;conv=>whnf)))
 exact FinP.i rfl
theorem agg_whole (z:Int):AV.agg [.bool (decide (z<0)),.sl false ((dg z.natAbs).map e32),.sl false [[.int .u32 1]]] = .agg (eQ (z:Rat)):=by
 show _=AV.agg (rQ _ _ _ _ _)
 rw[Rat.num_intCast,Rat.den_intCast,dg_one];rfl
theorem ev_rational_Of (N:RatGLib L) (z:Int) (hz : -9223372036854775808≤z∧z≤9223372036854775807):Ev L 96 [.int .i64 z] (.agg (eQ (z:Rat))):=by
 have h1:=ev_integer_Of N z hz
 refine Ev.x N.rational_Of rfl rfl ?_
 (repeat' (first|(refine AKM.x ?_;conv=>whnf)|(refine CallP.go (h1) ?_;conv=>whnf)))
 refine CalP.walkC 1000 N.rational_whole rfl rfl ?_
 (repeat' (refine AKM.x ?_;conv=>whnf))
 refine ⟨rfl,?_⟩
 (conv=>whnf)
 (repeat' (refine SnR.e1 rfl ?_;conv=>whnf))
 exact FinP.go (agg_whole z) (cl_eQ _)
theorem sm_zmul {k l:Nat} {n1 n2:Bool} {a b:List Nat} (ha:Sm k a) (hb:Sm l b):Sm (k+l) (dg (zv n1 a*zv n2 b).natAbs):=ha.mul hb (by rw[Int.natAbs_mul,zv_abs,zv_abs])
theorem sm_zadd {k:Nat} {x y:Int} (ha:Sm k (dg x.natAbs)) (hb:Sm k (dg y.natAbs)):Sm (k+1) (dg (x+y).natAbs):=ha.add hb (by rw[val_dg,val_dg];omega)
theorem ev_rational_Add (N:RatGLib L) (k:Nat) (hk:1≤k∧k≤68719476736) (n1 n2 q1 q2 q3 q4:Bool) (m1 d1 m2 d2:List Nat) (hm1:Sm k m1) (hd1:Sm k d1) (hm2:Sm k m2) (hd2:Sm k d2) :
  Ev L 98 [.agg (rQ q1 q2 n1 m1 d1),.agg (rQ q3 q4 n2 m2 d2)] (.agg (eQ (qv n1 m1 d1+qv n2 m2 d2))):=by
 obtain ⟨a1,a2,a3,w1,hr1,s1,s2,s3,s4,s5⟩:=ev_read N n1 m1 d1 k (by omega) hm1 hd1
 obtain ⟨b1,b2,b3,w2,hr2,t1,t2,t3,t4,t5⟩:=ev_read N n2 m2 d2 k (by omega) hm2 hd2
 rw[s5,t5]
 have hA:=fun q q'=>ev_integer_Add N a1 b1 q q' a2 b2 (s1.le (by omega)) (t1.le (by omega))
 have hsum:Sm (k+1) (dg (zv a1 a2+zv b1 b2).natAbs):=sm_zadd (by rw[zv_abs];exact s1.nrm) (by rw[zv_abs];exact t1.nrm)
 by_cases hw:w1=true∧w2=true
 ·obtain ⟨rfl,rfl⟩:=hw
  rw[s4 rfl,t4 rfl,mk_add_same (by omega),mk_one]
  generalize zv a1 a2+zv b1 b2=z at *
  refine Ev.x N.rational_Add rfl rfl ?_
  (repeat' (first|(refine FlP.n4 ?_;conv=>whnf)|(refine AKM.x ?_;conv=>whnf)|(refine CallP.go (hr1) ?_;conv=>whnf)|(refine CallP.go (hr2) ?_;conv=>whnf)|(refine CallP.go (hA _ _) ?_;conv=>whnf)))
  refine CalP.walkC 1000 N.rational_whole rfl rfl ?_
  (repeat' (refine AKM.x ?_;conv=>whnf))
  refine ⟨rfl,?_⟩
  (conv=>whnf)
  (repeat' (refine SnR.e1 rfl ?_;conv=>whnf))
  exact FinP.go (agg_whole z) (cl_eQ _)
 ·have hcmp:=fun q q'=>ev_nat_Compare N.toNatGLib a3 b3 q q' s2.1 t2.1 (by have:=s2.2;omega) (by have:=t2.2;omega)
  by_cases hde:val a3=val b3
  ·have hn:cmpS (val a3) (val b3)=0:=(cmpS_eq (by omega)).symm
   rw[hn]at hcmp
   rw[←hde,mk_add_same s3]
   generalize zv a1 a2+zv b1 b2=z at *
   have hl:=fun q1 q2=>ev_lowest N (decide (z<0)) q1 q2 (dg z.natAbs) a3 (hsum.le (by omega)) (s2.le (by omega)) s3
   unfold qv at hl
   rw[zv_of]at hl
   refine Ev.x N.rational_Add rfl rfl ?_
   cases w1<;>cases w2
   ·(repeat' (first|(refine CmpP.go (fun hc => ?_) (fun hc => ?_)<;>first|(exfalso;omega)|(conv=>whnf))|(refine FlP.n4 ?_;conv=>whnf)|(refine AKM.x ?_;conv=>whnf)|(refine CallP.go (hr1) ?_;conv=>whnf)|(refine CallP.go (hr2) ?_;conv=>whnf)|(refine CallP.go (hA _ _) ?_;conv=>whnf)|(refine CallP.go (hcmp _ _) ?_;conv=>whnf)|(refine CallP.go (hl _ _) ?_;conv=>whnf)))
    exact FinP.go rfl (cl_eQ _)
   ·(repeat' (first|(refine CmpP.go (fun hc => ?_) (fun hc => ?_)<;>first|(exfalso;omega)|(conv=>whnf))|(refine FlP.n4 ?_;conv=>whnf)|(refine AKM.x ?_;conv=>whnf)|(refine CallP.go (hr1) ?_;conv=>whnf)|(refine CallP.go (hr2) ?_;conv=>whnf)|(refine CallP.go (hA _ _) ?_;conv=>whnf)|(refine CallP.go (hcmp _ _) ?_;conv=>whnf)|(refine CallP.go (hl _ _) ?_;conv=>whnf)))
    exact FinP.go rfl (cl_eQ _)
   ·(repeat' (first|(refine CmpP.go (fun hc => ?_) (fun hc => ?_)<;>first|(exfalso;omega)|(conv=>whnf))|(refine FlP.n4 ?_;conv=>whnf)|(refine AKM.x ?_;conv=>whnf)|(refine CallP.go (hr1) ?_;conv=>whnf)|(refine CallP.go (hr2) ?_;conv=>whnf)|(refine CallP.go (hA _ _) ?_;conv=>whnf)|(refine CallP.go (hcmp _ _) ?_;conv=>whnf)|(refine CallP.go (hl _ _) ?_;conv=>whnf)))
    exact FinP.go rfl (cl_eQ _)
   ·exact absurd ⟨rfl,rfl⟩ hw
  ·have hn:cmpS (val a3) (val b3)≠0:=by unfold cmpS;split<;>(try split)<;>omega
   generalize cmpS (val a3) (val b3)=cm at *
   have hM1:=fun q q'=>ev_integer_Mul N a1 false q q' a2 b3 s1.1 t2.1 (by have:=s1.2;have:=t2.2;omega)
   have hM2:=fun q q'=>ev_integer_Mul N b1 false q q' b2 a3 t1.1 s2.1 (by have:=t1.2;have:=s2.2;omega)
   have hM3:=fun q q'=>ev_nat_Mul N.toNatGLib a3 b3 q q' s2.1 t2.1 (by have:=s2.2;have:=t2.2;omega)
   have hna:=ev_natural N a3
   have hnb:=ev_natural N b3
   have g1:Sm (k+k) (dg (zv a1 a2*zv false b3).natAbs):=sm_zmul s1 t2
   have g2:Sm (k+k) (dg (zv b1 b2*zv false a3).natAbs):=sm_zmul t1 s2
   have g3:=sm_zadd g1 g2
   have g4:Sm (k+k) (dg (val a3*val b3)):=s2.mul t2 rfl
   rw[mk_add s3 t3,←zv_F b3,←zv_F a3]
   have hden:val a3*val b3≠0:=Nat.mul_ne_zero s3 t3
   generalize zv a1 a2*zv false b3=x at *
   generalize zv b1 b2*zv false a3=y at *
   generalize val a3*val b3=D at *
   have hA2:=fun q q'=>ev_integer_Add N (decide (x<0)) (decide (y<0)) q q' (dg x.natAbs) (dg y.natAbs) (g1.le (by omega)) (g2.le (by omega))
   rw[zv_of,zv_of]at hA2
   generalize x+y=z at *
   have hl:=fun q1 q2=>ev_lowest N (decide (z<0)) q1 q2 (dg z.natAbs) (dg D) (g3.le (by omega)) (g4.le (by omega)) (by rw[val_dg];exact hden)
   unfold qv at hl
   rw[zv_of,val_dg]at hl
   refine Ev.x N.rational_Add rfl rfl ?_
   cases w1<;>cases w2
   ·(repeat' (first|(refine CmpP.go (fun hc => ?_) (fun hc => ?_)<;>first|(exfalso;omega)|(conv=>whnf))|(refine FlP.n4 ?_;conv=>whnf)|(refine FlP.n2 ?_;conv=>whnf)|(refine AKM.x ?_;conv=>whnf)|(refine CallP.go (hr1) ?_;conv=>whnf)|(refine CallP.go (hr2) ?_;conv=>whnf)|(refine CallP.go (hcmp _ _) ?_;conv=>whnf)|(refine CallP.go (hna) ?_;conv=>whnf)|(refine CallP.go (hnb) ?_;conv=>whnf)|(refine CallP.go (hM1 _ _) ?_;conv=>whnf)|(refine CallP.go (hM2 _ _) ?_;conv=>whnf)|(refine CallP.go (hA2 _ _) ?_;conv=>whnf)|(refine CallP.go (hM3 _ _) ?_;conv=>whnf)|(refine CallP.go (hl _ _) ?_;conv=>whnf)))
    exact FinP.go rfl (cl_eQ _)
   ·(repeat' (first|(refine CmpP.go (fun hc => ?_) (fun hc => ?_)<;>first|(exfalso;omega)|(conv=>whnf))|(refine FlP.n4 ?_;conv=>whnf)|(refine FlP.n2 ?_;conv=>whnf)|(refine AKM.x ?_;conv=>whnf)|(refine CallP.go (hr1) ?_;conv=>whnf)|(refine CallP.go (hr2) ?_;conv=>whnf)|(refine CallP.go (hcmp _ _) ?_;conv=>whnf)|(refine CallP.go (hna) ?_;conv=>whnf)|(refine CallP.go (hnb) ?_;conv=>whnf)|(refine CallP.go (hM1 _ _) ?_;conv=>whnf)|(refine CallP.go (hM2 _ _) ?_;conv=>whnf)|(refine CallP.go (hA2 _ _) ?_;conv=>whnf)|(refine CallP.go (hM3 _ _) ?_;conv=>whnf)|(refine CallP.go (hl _ _) ?_;conv=>whnf)))
    exact FinP.go rfl (cl_eQ _)
   ·(repeat' (first|(refine CmpP.go (fun hc => ?_) (fun hc => ?_)<;>first|(exfalso;omega)|(conv=>whnf))|(refine FlP.n4 ?_;conv=>whnf)|(refine FlP.n2 ?_;conv=>whnf)|(refine AKM.x ?_;conv=>whnf)|(refine CallP.go (hr1) ?_;conv=>whnf)|(refine CallP.go (hr2) ?_;conv=>whnf)|(refine CallP.go (hcmp _ _) ?_;conv=>whnf)|(refine CallP.go (hna) ?_;conv=>whnf)|(refine CallP.go (hnb) ?_;conv=>whnf)|(refine CallP.go (hM1 _ _) ?_;conv=>whnf)|(refine CallP.go (hM2 _ _) ?_;conv=>whnf)|(refine CallP.go (hA2 _ _) ?_;conv=>whnf)|(refine CallP.go (hM3 _ _) ?_;conv=>whnf)|(refine CallP.go (hl _ _) ?_;conv=>whnf)))
    exact FinP.go rfl (cl_eQ _)
   ·exact absurd ⟨rfl,rfl⟩ hw
theorem ev_rational_Mul (N:RatGLib L) (k:Nat) (hk:1≤k∧k≤68719476736) (n1 n2 q1 q2 q3 q4:Bool) (m1 d1 m2 d2:List Nat) (hm1:Sm k m1) (hd1:Sm k d1) (hm2:Sm k m2) (hd2:Sm k d2) :
  Ev L 99 [.agg (rQ q1 q2 n1 m1 d1),.agg (rQ q3 q4 n2 m2 d2)] (.agg (eQ (qv n1 m1 d1*qv n2 m2 d2))):=by
 obtain ⟨a1,a2,a3,w1,hr1,s1,s2,s3,s4,s5⟩:=ev_read N n1 m1 d1 k (by omega) hm1 hd1
 obtain ⟨b1,b2,b3,w2,hr2,t1,t2,t3,t4,t5⟩:=ev_read N n2 m2 d2 k (by omega) hm2 hd2
 rw[s5,t5,mk_mul]
 have hM1:=fun q q'=>ev_integer_Mul N a1 b1 q q' a2 b2 s1.1 t1.1 (by have:=s1.2;have:=t1.2;omega)
 have hM3:=fun q q'=>ev_nat_Mul N.toNatGLib a3 b3 q q' s2.1 t2.1 (by have:=s2.2;have:=t2.2;omega)
 have g1:Sm (k+k) (dg (zv a1 a2*zv b1 b2).natAbs):=sm_zmul s1 t1
 have g4:Sm (k+k) (dg (val a3*val b3)):=s2.mul t2 rfl
 have hden:val a3*val b3≠0:=Nat.mul_ne_zero s3 t3
 generalize zv a1 a2*zv b1 b2=z at *
 by_cases hw:w1=true∧w2=true
 ·obtain ⟨rfl,rfl⟩:=hw
  rw[s4 rfl,t4 rfl,Nat.one_mul,mk_one]
  refine Ev.x N.rational_Mul rfl rfl ?_
  (repeat' (first|(refine FlP.n4 ?_;conv=>whnf)|(refine AKM.x ?_;conv=>whnf)|(refine CallP.go (hr1) ?_;conv=>whnf)|(refine CallP.go (hr2) ?_;conv=>whnf)|(refine CallP.go (hM1 _ _) ?_;conv=>whnf)))
  refine CalP.walkC 1000 N.rational_whole rfl rfl ?_
  (repeat' (refine AKM.x ?_;conv=>whnf))
  refine ⟨rfl,?_⟩
  (conv=>whnf)
  (repeat' (refine SnR.e1 rfl ?_;conv=>whnf))
  exact FinP.go (agg_whole z) (cl_eQ _)
 ·generalize val a3*val b3=D at *
  have hl:=fun q1 q2=>ev_lowest N (decide (z<0)) q1 q2 (dg z.natAbs) (dg D) (g1.le (by omega)) (g4.le (by omega)) (by rw[val_dg];exact hden)
  unfold qv at hl
  rw[zv_of,val_dg]at hl
  refine Ev.x N.rational_Mul rfl rfl ?_
  cases w1<;>cases w2
  ·(repeat' (first|(refine FlP.n4 ?_;conv=>whnf)|(refine AKM.x ?_;conv=>whnf)|(refine CallP.go (hr1) ?_;conv=>whnf)|(refine CallP.go (hr2) ?_;conv=>whnf)|(refine CallP.go (hM1 _ _) ?_;conv=>whnf)|(refine CallP.go (hM3 _ _) ?_;conv=>whnf)|(refine CallP.go (hl _ _) ?_;conv=>whnf)))
   exact FinP.go rfl (cl_eQ _)
  ·(repeat' (first|(refine FlP.n4 ?_;conv=>whnf)|(refine AKM.x ?_;conv=>whnf)|(refine CallP.go (hr1) ?_;conv=>whnf)|(refine CallP.go (hr2) ?_;conv=>whnf)|(refine CallP.go (hM1 _ _) ?_;conv=>whnf)|(refine CallP.go (hM3 _ _) ?_;conv=>whnf)|(refine CallP.go (hl _ _) ?_;conv=>whnf)))
   exact FinP.go rfl (cl_eQ _)
  ·(repeat' (first|(refine FlP.n4 ?_;conv=>whnf)|(refine AKM.x ?_;conv=>whnf)|(refine CallP.go (hr1) ?_;conv=>whnf)|(refine CallP.go (hr2) ?_;conv=>whnf)|(refine CallP.go (hM1 _ _) ?_;conv=>whnf)|(refine CallP.go (hM3 _ _) ?_;conv=>whnf)|(refine CallP.go (hl _ _) ?_;conv=>whnf)))
   exact FinP.go rfl (cl_eQ _)
  ·exact absurd ⟨rfl,rfl⟩ hw
theorem cl_eQt (x:Rat) (e:Int):Clean (.tup [.agg (eQ x),.int .i64 e]):=by
 simp only[Clean,CleanL,and_true,true_and]
 exact ⟨cl_dig _,cl_dig _⟩
theorem ev_rational_Div (N:RatGLib L) (k:Nat) (hk:1≤k∧k≤68719476736) (n1 n2 q1 q2 q3 q4:Bool) (m1 d1 m2 d2:List Nat) (hm1:Sm k m1) (hd1:Sm k d1) (hm2:Sm k m2) (hd2:Sm k d2) (h0:qv n2 m2 d2≠0) :
  Ev L 100 [.agg (rQ q1 q2 n1 m1 d1),.agg (rQ q3 q4 n2 m2 d2)] (.tup [.agg (eQ (qv n1 m1 d1/qv n2 m2 d2)),.int .i64 0]):=by
 obtain ⟨a1,a2,a3,w1,hr1,s1,s2,s3,s4,s5⟩:=ev_read N n1 m1 d1 k (by omega) hm1 hd1
 obtain ⟨b1,b2,b3,w2,hr2,t1,t2,t3,t4,t5⟩:=ev_read N n2 m2 d2 k (by omega) hm2 hd2
 rw[t5]at h0
 rw[s5,t5]
 have hb0:zv b1 b2≠0:=fun h=>h0 ((mk_num_zero t3).2 h)
 rw[mk_div s3 t3 hb0]
 have hS:=fun q=>ev_integer_Sign N b1 q b2 (t1.le (by omega))
 have hsg:sgn (zv b1 b2)≠0:=by unfold sgn;split<;>(try split)<;>omega
 have hM1:=fun q q'=>ev_integer_Mul N a1 false q q' a2 b3 s1.1 t2.1 (by have:=s1.2;have:=t2.2;omega)
 have hM2:=fun q q'=>ev_integer_Mul N false b1 q q' a3 b2 s2.1 t1.1 (by have:=t1.2;have:=s2.2;omega)
 have hna:=ev_natural N a3
 have hnb:=ev_natural N b3
 have g1:Sm (k+k) (dg (zv a1 a2*zv false b3).natAbs):=sm_zmul s1 t2
 have g2:Sm (k+k) (dg (zv false a3*zv b1 b2).natAbs):=sm_zmul s2 t1
 have hd:(zv false a3*zv b1 b2).natAbs=val a3*(zv b1 b2).natAbs:=by rw[Int.natAbs_mul,zv_abs]
 have hds:(zv false a3*zv b1 b2).sign=(zv b1 b2).sign:=by
  rw[Int.sign_mul,zv_F,Int.sign_eq_one_of_pos (by omega),Int.one_mul]
 have hy0:zv false a3*zv b1 b2≠0:=by
  intro h
  rw[h]at hds
  exact hb0 (by simpa using hds.symm)
 rw[←hd,←hds,←zv_F b3]
 generalize zv a1 a2*zv false b3=x at *
 generalize zv false a3*zv b1 b2=y at *
 generalize sgn (zv b1 b2)=sg at *
 have hl:=fun q1 q2=>ev_lowest N (decide (x<0) != decide (y<0)) q1 q2 (dg x.natAbs) (dg y.natAbs) (g1.le (by omega)) (g2.le (by omega)) (by rw[val_dg];omega)
 unfold qv at hl
 rw[zv_quot hy0,val_dg]at hl
 refine Ev.x N.rational_Div rfl rfl ?_
 (repeat' (first|(refine CmpP.go (fun hc => ?_) (fun hc => ?_)<;>first|(exfalso;omega)|(conv=>whnf))|(refine FlP.n4 ?_;conv=>whnf)|(refine FlP.n2 ?_;conv=>whnf)|(refine AKM.x ?_;conv=>whnf)|(refine CallP.go (hr1) ?_;conv=>whnf)|(refine CallP.go (hr2) ?_;conv=>whnf)|(refine CallP.go (hS _) ?_;conv=>whnf)|(refine CallP.go (hna) ?_;conv=>whnf)|(refine CallP.go (hnb) ?_;conv=>whnf)|(refine CallP.go (hM1 _ _) ?_;conv=>whnf)|(refine CallP.go (hM2 _ _) ?_;conv=>whnf)))
 refine CalP.walkC 1000 N.rational_quotient rfl rfl ?_
 (repeat' (refine AKM.x ?_;conv=>whnf))
 generalize decide (x<0)=p at *
 generalize decide (y<0)=r at *
 cases p<;>cases r
 all_goals
  (conv=>whnf)
  refine ⟨rfl,?_⟩
  (conv=>whnf)
  (repeat' (refine CallP.go (hl _ _) ?_;conv=>whnf))
  exact FinP.go rfl (cl_eQt _ _)
end Go.Eng
namespace Go.Eng
open F
variable {L:Lib}
theorem Bt.sm {k:Nat} {x:Rat} (h:Bt k x) (hk:k<2199023255552):Sm 68719476736 (dg x.num.natAbs)∧Sm 68719476736 (dg x.den):=h.dig (by omega)
theorem ev_addQ (N:RatGLib L) {x y:Rat} {k l:Nat} (hx:Bt k x) (hy:Bt l y) (hk:k<2199023255552) (hl:l<2199023255552):Ev L 98 [.agg (eQ x),.agg (eQ y)] (.agg (eQ (x+y))):=by
 have:=ev_rational_Add N 68719476736 (by omega) (decide (x.num<0)) (decide (y.num<0)) false false false false _ _ _ _ (hx.sm hk).1 (hx.sm hk).2 (hy.sm hl).1 (hy.sm hl).2
 rw[qv_of,qv_of]at this
 exact this
theorem ev_mulQ (N:RatGLib L) {x y:Rat} {k l:Nat} (hx:Bt k x) (hy:Bt l y) (hk:k<2199023255552) (hl:l<2199023255552):Ev L 99 [.agg (eQ x),.agg (eQ y)] (.agg (eQ (x*y))):=by
 have:=ev_rational_Mul N 68719476736 (by omega) (decide (x.num<0)) (decide (y.num<0)) false false false false _ _ _ _ (hx.sm hk).1 (hx.sm hk).2 (hy.sm hl).1 (hy.sm hl).2
 rw[qv_of,qv_of]at this
 exact this
theorem ev_divQ (N:RatGLib L) {x y:Rat} {k l:Nat} (hx:Bt k x) (hy:Bt l y) (hk:k<2199023255552) (hl:l<2199023255552) (h0:y≠0):Ev L 100 [.agg (eQ x),.agg (eQ y)] (.tup [.agg (eQ (x/y)),.int .i64 0]):=by
 have:=ev_rational_Div N 68719476736 (by omega) (decide (x.num<0)) (decide (y.num<0)) false false false false _ _ _ _ (hx.sm hk).1 (hx.sm hk).2 (hy.sm hl).1 (hy.sm hl).2 (by rw[qv_of];exact h0)
 rw[qv_of,qv_of]at this
 exact this
theorem ev_trimQ (N:RatGLib L) {x:Rat} {k:Nat} (hx:Bt k x) (hk:k<2199023255552):Ev L 95 [.agg (eQ x)] (.agg (eQ x)):=by
 have:=ev_rational_Trim N (decide (x.num<0)) false false _ _ ((hx.sm hk).1.le (by omega)) ((hx.sm hk).2.le (by omega))
 rw[qv_of]at this
 exact this
theorem ev_signQ (N:RatGLib L) {x:Rat} {k:Nat} (hx:Bt k x) (hk:k<2199023255552):Ev L 97 [.agg (eQ x)] (.int .i64 (sgn x.num)):=by
 have:=ev_rational_Sign N (decide (x.num<0)) false false _ _ ((hx.sm hk).1.le (by omega)) ((hx.sm hk).2.le (by omega))
 rw[qv_of]at this
 exact this
theorem sgn_num {x:Rat}:sgn x.num=0↔x=0:=by
 rw[←Rat.num_eq_zero]
 unfold sgn
 split
 ·omega
 ·split<;>omega
end Go.Eng

namespace Go.Eng
open F
attribute [local irreducible] AKM CmpP Req OpP UnP ConvP RdP LdR StR MkR LenP AppR AppN CpyR RowP SnR Bds SlS CallP CalP FinP pw LdM GetM SetM PutM MkM AppM SnM FlP CallR
set_option maxHeartbeats 4000000
variable {L:Lib}
theorem mk_sign {x y:Int} (h:y≠0):mkRat (y.sign*x) y.natAbs=Rat.divInt x y:=by
 obtain ⟨d,hd|hd⟩:=Int.eq_nat_or_neg y
 ·subst hd
  rw[Int.sign_eq_one_of_pos (by omega),Int.one_mul,Int.natAbs_natCast,Rat.divInt_ofNat]
 ·subst hd
  rw[Int.sign_eq_neg_one_of_neg (by omega),Int.natAbs_neg,Int.natAbs_natCast,Rat.divInt_neg',Rat.divInt_ofNat,Int.neg_one_mul]
theorem ev_FracQ (N:RatHLib L) (x y:Int) (hx : -9223372036854775808≤x∧x≤9223372036854775807) (hy : -9223372036854775808≤y∧y≤9223372036854775807) (h0:y≠0):Ev L 151 [.int .i64 x,.int .i64 y] (.agg (eQ (Rat.divInt x y))):=by
 have h1:=ev_integer_Of N.toRatGLib x hx
 have h2:=ev_integer_Of N.toRatGLib y hy
 have g1:Sm 2 (dg x.natAbs):=Sm.dg (by omega)
 have g2:Sm 2 (dg y.natAbs):=Sm.dg (by omega)
 have hl:=fun q1 q2=>ev_lowest N.toRatGLib (decide (x<0) != decide (y<0)) q1 q2 (dg x.natAbs) (dg y.natAbs) (g1.le (by omega)) (g2.le (by omega)) (by rw[val_dg];omega)
 unfold qv at hl
 rw[zv_quot h0,val_dg,mk_sign h0]at hl
 refine Ev.x N.rational_Frac rfl rfl ?_
 (repeat' (first|(refine CmpP.go (fun hc => ?_) (fun hc => ?_)<;>first|(exfalso;omega)|(conv=>whnf))|(refine AKM.x ?_;conv=>whnf)|(refine CallP.go (h1) ?_;conv=>whnf)|(refine CallP.go (h2) ?_;conv=>whnf)))
 refine CalP.walkC 1000 N.rational_quotient rfl rfl ?_
 (repeat' (refine AKM.x ?_;conv=>whnf))
 generalize decide (x<0)=p at *
 generalize decide (y<0)=r at *
 cases p<;>cases r
 all_goals
  (conv=>whnf)
  refine ⟨rfl,?_⟩
  (conv=>whnf)
  (repeat' (refine CallP.go (hl _ _) ?_;conv=>whnf))
  exact FinP.go rfl (cl_eQ _)
end Go.Eng

namespace Go.Eng
open F
attribute [local irreducible] AKM CmpP Req OpP UnP ConvP RdP LdR StR MkR LenP AppR AppN CpyR RowP SnR Bds SlS CallP CalP FinP pw LdM GetM SetM PutM MkM AppM SnM FlP CallR
set_option maxHeartbeats 8000000
variable {L:Lib}
def addP (p r:List Rat):List Rat:=(List.range p.length).map fun i=>p.getD i 0+r.getD i 0
theorem addP_len (p r:List Rat):(addP p r).length=p.length:=by simp [addP]
theorem addP_at {p r:List Rat} {i:Nat} (h:i<p.length):(addP p r)[i]? = some (p.getD i 0+r.getD i 0):=by
 simp only[addP,List.getElem?_map,List.getElem?_range h,Option.map_some]
theorem gD_of {l:List Rat} {i:Nat} {x:Rat} (h:l[i]? = some x):l.getD i 0=x:=by rw[List.getD_eq_getElem?_getD,h];rfl
theorem gD_ge {l:List Rat} {i:Nat} (h:l.length≤i):l.getD i 0=0:=by rw[List.getD_eq_getElem?_getD,List.getElem?_eq_none h];rfl
theorem ev_pTrim (N:PolyGLib L) (q:Bool) (l:List Rat) (k:Nat) (hl:Bs k l) (hk:k<2199023255552) (hn:l.length≤1000000):Ev L 170 [.sl q (l.map eQ)] (.sl false ((trimQ l).map eQ)):=by
 refine Ev.x N.poly_Trim rfl rfl ?_
 (repeat' (refine AKM.x ?_;conv=>whnf))
 refine CalP.walk 1000 N.poly_cut rfl rfl ?_
 (repeat' (first|(refine LenP.go ?_;conv=>whnf)|(refine AKM.x ?_;conv=>whnf)))
 refine AKM.loop1 (fun n=>n) (fun (n:Nat)=>n≤l.length∧cutN l l.length=cutN l n) (fun n=>[(3,.int .i64 n)]) (fun _=>[]) [] [] l.length (by (conv=>whnf);exact ⟨rfl,rfl,rfl⟩) ⟨Nat.le_refl _,rfl⟩ ?_
 intro n ⟨p1,p2⟩ ih
 have done : ∀ {n:Nat},cutN l l.length=n→trimQ l=l.take n:=fun h=>by rw[trimQ,h]
 by_cases hz:n=0∨(∃ m x,n=m+1∧l[m]? = some x∧x≠0)
 ·have hcut:cutN l l.length=n:=by
   rw[p2]
   rcases hz with rfl|⟨m,x,rfl,h1,h2⟩
   ·rfl
   ·rw[cutN,if_neg]
    rw[List.getD_eq_getElem?_getD,h1];exact h2
  have htq:=done hcut
  have htl:(l.take n).length=n:=by rw[List.length_take];omega
  clear ih hcut p2 done
  rcases hz with h0|⟨m,x,hnm,h1,h2⟩
  case' inl=>(repeat' (first|(refine CmpP.go (fun hc => ?_) (fun hc => ?_)<;>first|(exfalso;omega)|(conv=>whnf))|(refine AKM.x ?_;conv=>whnf)))
  case' inr =>
   have h1':l[((n:Int)-1).toNat]? = some x:=by rw[show ((n:Int)-1).toNat=m by omega];exact h1
   have hS':=ev_signQ N.toRatGLib (hl.at h1) (by omega)
   have hs:=sgn_num (x:=x)
   generalize sgn x.num=s at *
   have hS : ∀ v,l[((n:Int)-1).toNat]? = some v→Ev L 97 [.agg (eQ v)] (.int .i64 s):=fun v h=>by
    obtain rfl:=Option.some.inj (h1'.symm.trans h)
    exact hS'
   have hs0:s≠0:=fun h=>h2 (hs.1 h)
   (repeat' (first|(refine CmpP.go (fun hc => ?_) (fun hc => ?_)<;>first|(exfalso;omega)|(conv=>whnf))|(refine OpP.sub ?_ ?_;omega;conv=>whnf)|(refine RdP.at (by assumption) ?_ rfl ?_;omega;conv=>whnf)|(refine AKM.x ?_;conv=>whnf)|(refine CallP.go (hS') ?_;conv=>whnf)))
  all_goals
   refine SlS.to (enc:=eQ) (fun _=>rfl) p1 ?_
   (conv=>whnf)
   skip
   refine ⟨rfl,_,rfl,?_⟩
   (conv=>whnf)
   (repeat' (refine LenP.go ?_;conv=>whnf))
   refine MkR.go (enc:=eO) none n rfl (by rw[htl]) (by omega) ?_
   (conv=>whnf)
   skip
   refine AKM.loop1 (fun i=>n-i) (fun (i:Nat)=>i≤n) (fun i=>[(11,.int .i64 i)]) (fun i=>[(170008,170008,.rw 3 ((fillO (l.take i) n).map eO))]) [] [] 0 (by first|exact (by (conv=>whnf);exact ⟨rfl,rfl,rfl⟩)|(rw[List.take_zero,←fillO_nil];exact (by (conv=>whnf);exact ⟨rfl,rfl,rfl⟩))) (by omega) ?_
   intro i g1 ih
   by_cases hi:i<n
   ·all_goals try (exfalso;omega)
    all_goals
     obtain ⟨y,hy⟩ : ∃ y,l[i]? = some y:=⟨_,List.getElem?_eq_getElem (by omega)⟩
     have hy':l[(i:Int).toNat]? = some y:=hy
     have hti:(l.take i).length=i:=by rw[List.length_take];omega
     have hlf:=fillO_len (l:=l.take i) (m:=n) (by omega)
     have hst:=fillO_set (l:=l.take i) (m:=n) (x:=y) (by omega)
     rw[hti,←take_snocQ hy]at hst
     have hT':=ev_trimQ N.toRatGLib (hl.at hy) (by omega)
     have hT : ∀ v,l[(i:Int).toNat]? = some v→Ev L 95 [.agg (eQ v)] (.agg (eQ y)):=fun v h=>by
      obtain rfl:=Option.some.inj (hy'.symm.trans h)
      exact hT'
     (repeat' (first|(refine CmpP.go (fun hc => ?_) (fun hc => ?_)<;>first|(exfalso;omega)|(conv=>whnf))|(refine Req.go ?_ ?_;omega;conv=>whnf)|(refine RdP.at (by assumption) ?_ rfl ?_;omega;conv=>whnf)|(refine AKM.x ?_;conv=>whnf)|(refine CallP.go (hT') ?_;conv=>whnf)))
     refine StR.nat (enc:=eO) (some y) rfl (fun e=>by cases e<;>rfl) (by omega) ?_
     (conv=>whnf)
     (repeat' (refine OpP.add ?_ ?_;omega;conv=>whnf))
     rw[hst]
     exact AKM.back [] (by (conv=>whnf);exact ⟨rfl,rfl,rfl⟩) (ih (i+1) (by omega) (by omega))
   ·obtain rfl:i=n:=by omega
    clear ih
    rw[fillO_full htl,←htq]at *
    rw[←htq]at htl
    (repeat' (first|(refine CmpP.go (fun hc => ?_) (fun hc => ?_)<;>first|(exfalso;omega)|(conv=>whnf))|(refine AKM.x ?_;conv=>whnf)))
    refine SnR.all (enc:=eQ) (fun _=>rfl) rfl htl.symm ?_
    (conv=>whnf)
    exact FinP.go rfl (by simp only[Clean,true_and];exact cl_eQs _)
 ·obtain ⟨m,rfl⟩ : ∃ m,n=m+1:=⟨n-1,by omega⟩
  obtain ⟨x,hx⟩ : ∃ x,l[m]? = some x:=⟨_,List.getElem?_eq_getElem (by omega)⟩
  have hx0:x=0:=by
   rcases Classical.em (x=0) with h|h
   ·exact h
   ·exact (hz (Or.inr ⟨m,x,rfl,hx,h⟩)).elim
  have hx':l[((m+1:Nat)-1:Int).toNat]? = some x:=by rw[show ((m+1:Nat)-1:Int).toNat=m by omega];exact hx
  have hS':=ev_signQ N.toRatGLib (hl.at hx) (by omega)
  have hs:=sgn_num (x:=x)
  generalize sgn x.num=s at *
  have hS : ∀ v,l[((m+1:Nat)-1:Int).toNat]? = some v→Ev L 97 [.agg (eQ v)] (.int .i64 s):=fun v h=>by
   obtain rfl:=Option.some.inj (hx'.symm.trans h)
   exact hS'
  have hs0:=hs.2 hx0
  (repeat' (first|(refine CmpP.go (fun hc => ?_) (fun hc => ?_)<;>first|(exfalso;omega)|(conv=>whnf))|(refine OpP.sub ?_ ?_;omega;conv=>whnf)|(refine RdP.at (by assumption) ?_ rfl ?_;omega;conv=>whnf)|(refine AKM.x ?_;conv=>whnf)|(refine CallP.go (hS') ?_;conv=>whnf)))
  rw[show ((m+1:Nat):Int)-1=(m:Int) by omega]
  exact AKM.back [] (by (conv=>whnf);exact ⟨rfl,rfl,rfl⟩) (ih m (by omega) ⟨by omega,by rw[p2,cutN,if_pos (by rw[List.getD_eq_getElem?_getD,hx];exact hx0)]⟩)
theorem ev_pScale (N:TrGLib L) (q:Bool) (l:List Rat) (d:Rat) (k j:Nat) (hl:Bs k l) (hd:Bt j d) (hk:k+j<2199023255552) (hn:l.length≤1000000):Ev L 190 [.sl q (l.map eQ),.agg (eQ d)] (.sl false ((trimQ (l.map (· * d))).map eQ)):=by
 refine Ev.x N.poly_Scale rfl rfl ?_
 (repeat' (first|(refine LenP.go ?_;conv=>whnf)|(refine AKM.x ?_;conv=>whnf)))
 refine MkR.go (enc:=eO) none l.length rfl rfl (by omega) ?_
 (conv=>whnf)
 skip
 refine AKM.loop1 (fun i=>l.length-i) (fun (i:Nat)=>i≤l.length) (fun i=>[(12,.int .i64 i)]) (fun i=>[(9,9,.rw 3 ((fillO ((l.map (· * d)).take i) l.length).map eO))]) [] [] 0 (by first|exact (by (conv=>whnf);exact ⟨rfl,rfl,rfl⟩)|(rw[List.take_zero,←fillO_nil];exact (by (conv=>whnf);exact ⟨rfl,rfl,rfl⟩))) (by omega) ?_
 intro i g1 ih
 by_cases hi:i<l.length
 ·obtain ⟨x,hx⟩ : ∃ x,l[i]? = some x:=⟨_,List.getElem?_eq_getElem hi⟩
  have hx':l[(i:Int).toNat]? = some x:=hx
  have hM:=ev_mulQ N.toRatGLib (hl.at hx) hd (by omega) (by omega)
  have hy:(l.map (· * d))[i]? = some (x*d):=by rw[List.getElem?_map,hx];rfl
  have hti:((l.map (· * d)).take i).length=i:=by rw[List.length_take,List.length_map];omega
  have hlf:=fillO_len (l:=(l.map (· * d)).take i) (m:=l.length) (by omega)
  have hst:=fillO_set (l:=(l.map (· * d)).take i) (m:=l.length) (x:=x*d) (by omega)
  rw[hti,←take_snocQ hy]at hst
  (repeat' (first|(refine CmpP.go (fun hc => ?_) (fun hc => ?_)<;>first|(exfalso;omega)|(conv=>whnf))|(refine Req.go ?_ ?_;omega;conv=>whnf)|(refine RdP.at (by assumption) ?_ rfl ?_;omega;conv=>whnf)|(refine AKM.x ?_;conv=>whnf)|(refine CallP.go (hM) ?_;conv=>whnf)))
  refine StR.nat (enc:=eO) (some (x*d)) rfl (fun e=>by cases e<;>rfl) (by omega) ?_
  (conv=>whnf)
  (repeat' (refine OpP.add ?_ ?_;omega;conv=>whnf))
  rw[hst]
  exact AKM.back [] (by (conv=>whnf);exact ⟨rfl,rfl,rfl⟩) (ih (i+1) (by omega) (by omega))
 ·obtain rfl:i=l.length:=by omega
  clear ih
  have hmb:Bs (k+j) (l.map (· * d)):=by
   intro y hy
   obtain ⟨x,hx,rfl⟩:=List.mem_map.1 hy
   exact (hl x hx).mul hd
  have hml:(l.map (· * d)).length=l.length:=List.length_map ..
  rw[List.take_of_length_le (Nat.le_of_eq hml),fillO_full hml,←hml]
  generalize l.map (· * d)=p at *
  (repeat' (first|(refine CmpP.go (fun hc => ?_) (fun hc => ?_)<;>first|(exfalso;omega)|(conv=>whnf))|(refine AKM.x ?_;conv=>whnf)))
  refine CalP.walk 1000 N.poly_cut rfl rfl ?_
  (repeat' (refine AKM.x ?_;conv=>whnf))
  refine AKM.loop1 (fun n=>n) (fun (n:Nat)=>n≤p.length∧cutN p p.length=cutN p n) (fun n=>[(3,.int .i64 n)]) (fun _=>[(9,9,.rw 3 (p.map eQ))]) [] [] p.length (by (conv=>whnf);exact ⟨rfl,rfl,rfl⟩) ⟨Nat.le_refl _,rfl⟩ ?_
  intro n ⟨p1,p2⟩ ih
  have done : ∀ {n:Nat},cutN p p.length=n→trimQ p=p.take n:=fun h=>by rw[trimQ,h]
  by_cases hz:n=0∨(∃ m x,n=m+1∧p[m]? = some x∧x≠0)
  ·have hcut:cutN p p.length=n:=by
    rw[p2]
    rcases hz with rfl|⟨m,x,rfl,h1,h2⟩
    ·rfl
    ·rw[cutN,if_neg]
     rw[List.getD_eq_getElem?_getD,h1];exact h2
   have htq:=done hcut
   have htl:(p.take n).length=n:=by rw[List.length_take];omega
   clear ih hcut p2 done
   rcases hz with h0|⟨m,x,hnm,h1,h2⟩
   case' inl=>(repeat' (first|(refine CmpP.go (fun hc => ?_) (fun hc => ?_)<;>first|(exfalso;omega)|(conv=>whnf))|(refine AKM.x ?_;conv=>whnf)))
   case' inr =>
    have h1':p[((n:Int)-1).toNat]? = some x:=by rw[show ((n:Int)-1).toNat=m by omega];exact h1
    have hS':=ev_signQ N.toRatGLib (hmb.at h1) (by omega)
    have hs:=sgn_num (x:=x)
    generalize sgn x.num=s at *
    have hS : ∀ v,p[((n:Int)-1).toNat]? = some v→Ev L 97 [.agg (eQ v)] (.int .i64 s):=fun v h=>by
     obtain rfl:=Option.some.inj (h1'.symm.trans h)
     exact hS'
    have hs0:s≠0:=fun h=>h2 (hs.1 h)
    (repeat' (first|(refine CmpP.go (fun hc => ?_) (fun hc => ?_)<;>first|(exfalso;omega)|(conv=>whnf))|(refine Req.go ?_ ?_;omega;conv=>whnf)|(refine OpP.sub ?_ ?_;omega;conv=>whnf)|(refine LdR.int ?_ (fun _=>rfl) (fun v hv => ?_);omega;conv=>whnf)|(refine AKM.x ?_;conv=>whnf)|(refine CallP.go (hS _ hv) ?_;conv=>whnf)))
   all_goals
    refine Bds.up n (by omega) (by omega) ?_
    (conv=>whnf)
    skip
    refine ⟨rfl,_,rfl,?_⟩
    (conv=>whnf)
    (refine SnR.part (enc:=eQ) (fun _=>rfl) (by omega) ?_;rw[List.drop_zero,Nat.sub_zero,←htq];exact FinP.go rfl (by simp only[Clean,true_and];exact cl_eQs _))
  ·obtain ⟨m,rfl⟩ : ∃ m,n=m+1:=⟨n-1,by omega⟩
   obtain ⟨x,hx⟩ : ∃ x,p[m]? = some x:=⟨_,List.getElem?_eq_getElem (by omega)⟩
   have hx0:x=0:=by
    rcases Classical.em (x=0) with h|h
    ·exact h
    ·exact (hz (Or.inr ⟨m,x,rfl,hx,h⟩)).elim
   have hx':p[((m+1:Nat)-1:Int).toNat]? = some x:=by rw[show ((m+1:Nat)-1:Int).toNat=m by omega];exact hx
   have hS':=ev_signQ N.toRatGLib (hmb.at hx) (by omega)
   have hs:=sgn_num (x:=x)
   generalize sgn x.num=s at *
   have hS : ∀ v,p[((m+1:Nat)-1:Int).toNat]? = some v→Ev L 97 [.agg (eQ v)] (.int .i64 s):=fun v h=>by
    obtain rfl:=Option.some.inj (hx'.symm.trans h)
    exact hS'
   have hs0:=hs.2 hx0
   (repeat' (first|(refine CmpP.go (fun hc => ?_) (fun hc => ?_)<;>first|(exfalso;omega)|(conv=>whnf))|(refine Req.go ?_ ?_;omega;conv=>whnf)|(refine OpP.sub ?_ ?_;omega;conv=>whnf)|(refine LdR.int ?_ (fun _=>rfl) (fun v hv => ?_);omega;conv=>whnf)|(refine AKM.x ?_;conv=>whnf)|(refine CallP.go (hS _ hv) ?_;conv=>whnf)))
   rw[show ((m+1:Nat):Int)-1=(m:Int) by omega]
   exact AKM.back [] (by (conv=>whnf);exact ⟨rfl,rfl,rfl⟩) (ih m (by omega) ⟨by omega,by rw[p2,cutN,if_pos (by rw[List.getD_eq_getElem?_getD,hx];exact hx0)]⟩)
theorem ev_pAdd (N:TrGLib L) (q1 q2:Bool) (p r:List Rat) (k j:Nat) (hp:Bs k p) (hr:Bs j r) (hk:k+j+1<2199023255552) (hn:p.length≤1000000) (hm:r.length≤p.length):Ev L 191 [.sl q1 (p.map eQ),.sl q2 (r.map eQ)] (.sl false ((trimQ (addP p r)).map eQ)):=by
 refine Ev.x N.poly_Add rfl rfl ?_
 (repeat' (first|(refine CmpP.go (fun hc => ?_) (fun hc => ?_)<;>first|(exfalso;omega)|(conv=>whnf))|(refine LenP.go ?_;conv=>whnf)|(refine AKM.x ?_;conv=>whnf)))
 refine MkR.go (enc:=eO) none p.length rfl rfl (by omega) ?_
 (conv=>whnf)
 skip
 have hml:=addP_len p r
 refine AKM.loop1 (fun i=>p.length-i) (fun (i:Nat)=>i≤p.length) (fun i=>[(19,.int .i64 i)]) (fun i=>[(16,16,.rw 3 ((fillO ((addP p r).take i) p.length).map eO))]) [] [] 0 (by first|exact (by (conv=>whnf);exact ⟨rfl,rfl,rfl⟩)|(rw[List.take_zero,←fillO_nil];exact (by (conv=>whnf);exact ⟨rfl,rfl,rfl⟩))) (by omega) ?_
 intro i g1 ih
 by_cases hi:i<p.length
 ·obtain ⟨x,hx⟩ : ∃ x,p[i]? = some x:=⟨_,List.getElem?_eq_getElem hi⟩
  have hx':p[(i:Int).toNat]? = some x:=hx
  have hy:=addP_at (r:=r) hi
  rw[gD_of hx]at hy
  have hti:((addP p r).take i).length=i:=by rw[List.length_take];omega
  have hlf:=fillO_len (l:=(addP p r).take i) (m:=p.length) (by omega)
  have hst:=fillO_set (l:=(addP p r).take i) (m:=p.length) (x:=x+r.getD i 0) (by omega)
  rw[hti,←take_snocQ hy]at hst
  by_cases h2:i<r.length
  ·obtain ⟨y,hy2⟩ : ∃ y,r[i]? = some y:=⟨_,List.getElem?_eq_getElem h2⟩
   have hy2':r[(i:Int).toNat]? = some y:=hy2
   rw[gD_of hy2]at hst
   have hA:=ev_addQ N.toRatGLib (hp.at hx) (hr.at hy2) (by omega) (by omega)
   (repeat' (first|(refine CmpP.go (fun hc => ?_) (fun hc => ?_)<;>first|(exfalso;omega)|(conv=>whnf))|(refine Req.go ?_ ?_;omega;conv=>whnf)|(refine LenP.go ?_;conv=>whnf)|(refine RdP.at (by assumption) ?_ rfl ?_;omega;conv=>whnf)|(refine AKM.x ?_;conv=>whnf)|(refine CallP.go (hA) ?_;conv=>whnf)))
   refine StR.nat (enc:=eO) (some (x+y)) rfl (fun e=>by cases e<;>rfl) (by omega) ?_
   (conv=>whnf)
   (repeat' (refine OpP.add ?_ ?_;omega;conv=>whnf))
   rw[hst]
   exact AKM.back [] (by (conv=>whnf);exact ⟨rfl,rfl,rfl⟩) (ih (i+1) (by omega) (by omega))
  ·rw[gD_ge (l:=r) (by omega),Rat.add_zero]at hst
   have hT:=ev_trimQ N.toRatGLib (hp.at hx) (by omega)
   (repeat' (first|(refine CmpP.go (fun hc => ?_) (fun hc => ?_)<;>first|(exfalso;omega)|(conv=>whnf))|(refine Req.go ?_ ?_;omega;conv=>whnf)|(refine LenP.go ?_;conv=>whnf)|(refine RdP.at (by assumption) ?_ rfl ?_;omega;conv=>whnf)|(refine AKM.x ?_;conv=>whnf)|(refine CallP.go (hT) ?_;conv=>whnf)))
   refine StR.nat (enc:=eO) (some x) rfl (fun e=>by cases e<;>rfl) (by omega) ?_
   (conv=>whnf)
   (repeat' (refine OpP.add ?_ ?_;omega;conv=>whnf))
   rw[hst]
   exact AKM.back [] (by (conv=>whnf);exact ⟨rfl,rfl,rfl⟩) (ih (i+1) (by omega) (by omega))
 ·obtain rfl:i=p.length:=by omega
  clear ih
  have hmb:Bs (k+j+1) (addP p r):=by
   intro z hz
   obtain ⟨i,hi⟩:=List.getElem?_of_mem hz
   have h1:=(List.getElem?_eq_some_iff.1 hi).1
   rw[hml]at h1
   rw[addP_at h1]at hi
   obtain rfl:=Option.some.inj hi
   obtain ⟨x,hx⟩ : ∃ x,p[i]? = some x:=⟨_,List.getElem?_eq_getElem h1⟩
   rw[gD_of hx]
   by_cases h2:i<r.length
   ·obtain ⟨y,hy2⟩ : ∃ y,r[i]? = some y:=⟨_,List.getElem?_eq_getElem h2⟩
    rw[gD_of hy2]
    exact (hp.at hx).add (hr.at hy2)
   ·rw[gD_ge (l:=r) (by omega),Rat.add_zero]
    exact (hp.at hx).le (by omega)
  rw[List.take_of_length_le (Nat.le_of_eq hml),fillO_full hml,←hml]
  generalize addP p r=u at *
  (repeat' (first|(refine CmpP.go (fun hc => ?_) (fun hc => ?_)<;>first|(exfalso;omega)|(conv=>whnf))|(refine AKM.x ?_;conv=>whnf)))
  refine CalP.walk 1000 N.poly_cut rfl rfl ?_
  (repeat' (refine AKM.x ?_;conv=>whnf))
  refine AKM.loop1 (fun n=>n) (fun (n:Nat)=>n≤u.length∧cutN u u.length=cutN u n) (fun n=>[(3,.int .i64 n)]) (fun _=>[(16,16,.rw 3 (u.map eQ))]) [] [] u.length (by (conv=>whnf);exact ⟨rfl,rfl,rfl⟩) ⟨Nat.le_refl _,rfl⟩ ?_
  intro n ⟨p1,p2⟩ ih
  have done : ∀ {n:Nat},cutN u u.length=n→trimQ u=u.take n:=fun h=>by rw[trimQ,h]
  by_cases hz:n=0∨(∃ m x,n=m+1∧u[m]? = some x∧x≠0)
  ·have hcut:cutN u u.length=n:=by
    rw[p2]
    rcases hz with rfl|⟨m,x,rfl,h1,h2⟩
    ·rfl
    ·rw[cutN,if_neg]
     rw[List.getD_eq_getElem?_getD,h1];exact h2
   have htq:=done hcut
   have htl:(u.take n).length=n:=by rw[List.length_take];omega
   clear ih hcut p2 done
   rcases hz with h0|⟨m,x,hnm,h1,h2⟩
   case' inl=>(repeat' (first|(refine CmpP.go (fun hc => ?_) (fun hc => ?_)<;>first|(exfalso;omega)|(conv=>whnf))|(refine AKM.x ?_;conv=>whnf)))
   case' inr =>
    have h1':u[((n:Int)-1).toNat]? = some x:=by rw[show ((n:Int)-1).toNat=m by omega];exact h1
    have hS':=ev_signQ N.toRatGLib (hmb.at h1) (by omega)
    have hs:=sgn_num (x:=x)
    generalize sgn x.num=s at *
    have hS : ∀ v,u[((n:Int)-1).toNat]? = some v→Ev L 97 [.agg (eQ v)] (.int .i64 s):=fun v h=>by
     obtain rfl:=Option.some.inj (h1'.symm.trans h)
     exact hS'
    have hs0:s≠0:=fun h=>h2 (hs.1 h)
    (repeat' (first|(refine CmpP.go (fun hc => ?_) (fun hc => ?_)<;>first|(exfalso;omega)|(conv=>whnf))|(refine Req.go ?_ ?_;omega;conv=>whnf)|(refine OpP.sub ?_ ?_;omega;conv=>whnf)|(refine LdR.int ?_ (fun _=>rfl) (fun v hv => ?_);omega;conv=>whnf)|(refine AKM.x ?_;conv=>whnf)|(refine CallP.go (hS _ hv) ?_;conv=>whnf)))
   all_goals
    refine Bds.up n (by omega) (by omega) ?_
    (conv=>whnf)
    skip
    refine ⟨rfl,_,rfl,?_⟩
    (conv=>whnf)
    (refine SnR.part (enc:=eQ) (fun _=>rfl) (by omega) ?_;rw[List.drop_zero,Nat.sub_zero,←htq];exact FinP.go rfl (by simp only[Clean,true_and];exact cl_eQs _))
  ·obtain ⟨m,rfl⟩ : ∃ m,n=m+1:=⟨n-1,by omega⟩
   obtain ⟨x,hx⟩ : ∃ x,u[m]? = some x:=⟨_,List.getElem?_eq_getElem (by omega)⟩
   have hx0:x=0:=by
    rcases Classical.em (x=0) with h|h
    ·exact h
    ·exact (hz (Or.inr ⟨m,x,rfl,hx,h⟩)).elim
   have hx':u[((m+1:Nat)-1:Int).toNat]? = some x:=by rw[show ((m+1:Nat)-1:Int).toNat=m by omega];exact hx
   have hS':=ev_signQ N.toRatGLib (hmb.at hx) (by omega)
   have hs:=sgn_num (x:=x)
   generalize sgn x.num=s at *
   have hS : ∀ v,u[((m+1:Nat)-1:Int).toNat]? = some v→Ev L 97 [.agg (eQ v)] (.int .i64 s):=fun v h=>by
    obtain rfl:=Option.some.inj (hx'.symm.trans h)
    exact hS'
   have hs0:=hs.2 hx0
   (repeat' (first|(refine CmpP.go (fun hc => ?_) (fun hc => ?_)<;>first|(exfalso;omega)|(conv=>whnf))|(refine Req.go ?_ ?_;omega;conv=>whnf)|(refine OpP.sub ?_ ?_;omega;conv=>whnf)|(refine LdR.int ?_ (fun _=>rfl) (fun v hv => ?_);omega;conv=>whnf)|(refine AKM.x ?_;conv=>whnf)|(refine CallP.go (hS _ hv) ?_;conv=>whnf)))
   rw[show ((m+1:Nat):Int)-1=(m:Int) by omega]
   exact AKM.back [] (by (conv=>whnf);exact ⟨rfl,rfl,rfl⟩) (ih m (by omega) ⟨by omega,by rw[p2,cutN,if_pos (by rw[List.getD_eq_getElem?_getD,hx];exact hx0)]⟩)
end Go.Eng

namespace Go.Eng
open F
attribute [local irreducible] AKM CmpP Req OpP UnP ConvP RdP LdR StR MkR LenP AppR AppN CpyR RowP SnR Bds SlS CallP CalP FinP pw LdM GetM SetM PutM MkM AppM SnM FlP CallR
set_option maxHeartbeats 1000000
variable {L:Lib}
def InI (n:Int):Prop := -9223372036854775808≤n∧n≤9223372036854775807
structure Wd where
 b:Int
 f:Int
 r:Int
 o:Int
abbrev encW (w:Wd):List AV:=[.int .i64 w.b,.int .i64 w.f,.int .i64 w.r,.int .i64 w.o]
theorem ev_fixed_mode (I:FixedLib L) (r:Int):Ev L 1 [.int .i64 r] (.bool (decide (1≤r∧r≤3))):=by
 refine Ev.x I.fixed_mode rfl rfl ?_
 (repeat' (first|(refine CmpP.go (fun hc => ?_) (fun hc => ?_)<;>first|(exfalso;omega)|(conv=>whnf))|(refine AKM.x ?_;conv=>whnf)))
 all_goals (first|exact FinP.dt (by omega)|exact FinP.df (by omega))
def WV (w:Wd):Prop:=4≤w.b∧w.b≤24∧0≤w.f∧w.f<w.b∧1≤w.r∧w.r≤3∧1≤w.o∧w.o≤2
instance (w : Wd) : Decidable (WV w) := by unfold WV; infer_instance
variable (w:Wd)
theorem ev_fixed_Valid (I:FixedLib L):Ev L 2 [.agg (encW w)] (.bool (decide (WV w))):=by
 refine Ev.x I.fixed_Valid rfl rfl ?_
 (repeat' (first|(refine CmpP.go (fun hc => ?_) (fun hc => ?_)<;>first|(exfalso;omega)|(conv=>whnf))|(refine AKM.x ?_;conv=>whnf)|(refine CallP.b (ev_fixed_mode I _) (fun hf => ?_) (fun hf => ?_)<;>(conv=>whnf))))
 all_goals (unfold WV;first|exact FinP.dt (by omega)|exact FinP.df (by omega))
def lowS:Int:=if WV w then -pw (w.b-1) else 0
def highS:Int:=if WV w then pw (w.b-1)-1 else 0
theorem ev_fixed_Low (I:FixedLib L):Ev L 3 [.agg (encW w)] (.int .i64 (lowS w)):=by
 refine Ev.x I.fixed_Low rfl rfl ?_
 by_cases hv:WV w
 all_goals (
  have hv':=hv
  unfold WV at hv'
  (repeat' (first|(refine OpP.sub ?_ ?_;omega;conv=>whnf)|(refine OpP.shl1 ?_ (fun _ _ => ?_);omega;conv=>whnf)|(refine OpP.wsub ?_;conv=>whnf)|(refine UnP.neg ?_ ?_;omega;conv=>whnf)|(refine AKM.x ?_;conv=>whnf)|(refine CallP.b (ev_fixed_Valid _ I) (fun hf => ?_) (fun hf => ?_)<;>(conv=>whnf))))
  all_goals (first|contradiction|exact FinP.i (by rw[lowS,if_pos hv])|exact FinP.i (by rw[lowS,if_neg hv])))
theorem ev_fixed_High (I:FixedLib L):Ev L 4 [.agg (encW w)] (.int .i64 (highS w)):=by
 refine Ev.x I.fixed_High rfl rfl ?_
 by_cases hv:WV w
 all_goals (
  have hv':=hv
  unfold WV at hv'
  (repeat' (first|(refine OpP.sub ?_ ?_;omega;conv=>whnf)|(refine OpP.shl1 ?_ (fun _ _ => ?_);omega;conv=>whnf)|(refine OpP.wsub ?_;conv=>whnf)|(refine AKM.x ?_;conv=>whnf)|(refine CallP.b (ev_fixed_Valid _ I) (fun hf => ?_) (fun hf => ?_)<;>(conv=>whnf))))
  all_goals (first|contradiction|exact FinP.i (by rw[highS,if_pos hv])|exact FinP.i (by rw[highS,if_neg hv])))
def FT (v:Int):Prop:=WV w∧lowS w≤v∧v≤highS w
instance (v : Int) : Decidable (FT w v) := by unfold FT; infer_instance
theorem ev_fixed_Fits (I:FixedLib L) (v:Int):Ev L 5 [.agg (encW w),.int .i64 v] (.bool (decide (FT w v))):=by
 refine Ev.x I.fixed_Fits rfl rfl ?_
 (repeat' (first|(refine CmpP.go (fun hc => ?_) (fun hc => ?_)<;>first|(exfalso;omega)|(conv=>whnf))|(refine AKM.x ?_;conv=>whnf)|(refine CallP.b (ev_fixed_Valid _ I) (fun hf => ?_) (fun hf => ?_)<;>(conv=>whnf))|(refine CallP.go (ev_fixed_Low _ I) ?_;conv=>whnf)|(refine CallP.go (ev_fixed_High _ I) ?_;conv=>whnf)))
 all_goals (unfold FT;first|exact FinP.dt ⟨by assumption,by assumption,by assumption⟩|exact FinP.df (by rintro ⟨h1,h2,h3⟩;first|contradiction|omega))
def wrapS (n v:Int):Int:=if 1≤n∧n≤62 then (if pw (n-1)≤v%pw n then v%pw n-pw n else v%pw n) else 0
theorem ev_fixed_Wrap (I:FixedLib L) (n v:Int):Ev L 7 [.int .i64 n,.int .i64 v] (.int .i64 (wrapS n v)):=by
 refine Ev.x I.fixed_Wrap rfl rfl ?_
 (repeat' (first|(refine CmpP.go (fun hc => ?_) (fun hc => ?_)<;>first|(exfalso;omega)|(conv=>whnf))|(refine OpP.sub ?_ ?_;omega;conv=>whnf)|(refine OpP.shl1 ?_ (fun _ _ => ?_);omega;conv=>whnf)|(refine OpP.andm ?_ (fun _ _ => ?_);omega;conv=>whnf)|(refine AKM.x ?_;conv=>whnf)))
 all_goals (refine FinP.i ?_;unfold wrapS;first|rw[if_neg (by omega)]|rw[if_pos (by omega),if_pos (by omega)]|rw[if_pos (by omega),if_neg (by omega)])
def satS (v:Int):Int:=min (max v (lowS w)) (highS w)
theorem ev_fixed_Saturate (I:FixedLib L) (v:Int):Ev L 8 [.agg (encW w),.int .i64 v] (.int .i64 (satS w v)):=by
 refine Ev.x I.fixed_Saturate rfl rfl ?_
 (repeat' (first|(refine CmpP.go (fun hc => ?_) (fun hc => ?_)<;>first|(exfalso;omega)|(conv=>whnf))|(refine AKM.x ?_;conv=>whnf)|(refine CallP.go (ev_fixed_Low _ I) ?_;conv=>whnf)|(refine CallP.go (ev_fixed_High _ I) ?_;conv=>whnf)))
 all_goals (refine FinP.i ?_;unfold satS;omega)
def redS (v:Int):Int:=if WV w then (if w.o=2 then wrapS w.b v else satS w v) else 0
theorem ev_fixed_Reduce (I:FixedLib L) (v:Int):Ev L 9 [.agg (encW w),.int .i64 v] (.int .i64 (redS w v)):=by
 refine Ev.x I.fixed_Reduce rfl rfl ?_
 (repeat' (first|(refine CmpP.go (fun hc => ?_) (fun hc => ?_)<;>first|(exfalso;omega)|(conv=>whnf))|(refine AKM.x ?_;conv=>whnf)|(refine CallP.b (ev_fixed_Valid _ I) (fun hf => ?_) (fun hf => ?_)<;>(conv=>whnf))|(refine CallP.go (ev_fixed_Wrap I _ _) ?_;conv=>whnf)|(refine CallP.go (ev_fixed_Saturate _ I _) ?_;conv=>whnf)))
 all_goals (refine FinP.i ?_;unfold redS;first|rw[if_neg (by assumption)]|rw[if_pos (by assumption),if_pos (by assumption)]|rw[if_pos (by assumption),if_neg (by assumption)])
def shiftS (v n r:Int):Int :=
 if 0≤n∧n≤62∧1≤r∧r≤3 then
  (if n=0 then v
   else if (r=2∧pw (n-1)≤v%pw n)∨(r=3∧v<0∧v%pw n≠0) then v/pw n+1 else v/pw n)
 else 0
theorem ev_fixed_Shift (I:FixedLib L) (v n r:Int) (hv:InI v):Ev L 6 [.int .i64 v,.int .i64 n,.int .i64 r] (.int .i64 (shiftS v n r)):=by
 refine Ev.x I.fixed_Shift rfl rfl ?_
 unfold InI at hv
 by_cases hn:1≤n∧n≤62
 ·have h2:=pw_succ hn.1
  have h3:=pw_pos (n-1)
  have h4:=ediv_half (m:=pw n) (by omega) hv
  have h5:=half_bit (v:=v) h3
  rw[←h2]at h5
  by_cases hr:1≤r∧r≤3
  ·rcases (by omega:r=1∨r=2∨r=3) with rfl|rfl|rfl
   all_goals (
    (repeat' (first|(refine CmpP.go (fun hc => ?_) (fun hc => ?_)<;>first|(exfalso;omega)|(conv=>whnf))|(refine Req.go ?_ ?_;omega;conv=>whnf)|(refine OpP.add ?_ ?_;omega;conv=>whnf)|(refine OpP.sub ?_ ?_;omega;conv=>whnf)|(refine OpP.shr ?_ ?_;omega;conv=>whnf)|(refine OpP.shl1 ?_ (fun _ _ => ?_);omega;conv=>whnf)|(refine OpP.andm ?_ (fun _ _ => ?_);omega;conv=>whnf)|(refine OpP.and1 ?_;conv=>whnf)|(refine AKM.x ?_;conv=>whnf)|(refine CallP.b (ev_fixed_mode I _) (fun hf => ?_) (fun hf => ?_)<;>(conv=>whnf))))
    all_goals (first|contradiction|(exfalso;omega)|skip))
   all_goals (
    refine FinP.i ?_
    unfold shiftS
    rw[if_pos (by omega),if_neg (by omega)]
    first
     | (rw[if_pos (by omega)];done)
     | (rw[if_neg (by omega)];done)
     |(by_cases hc:pw (n-1)≤v%pw n
       ·rw[if_pos hc]at h5;rw[if_pos (by omega),h5]
       ·rw[if_neg hc]at h5;rw[if_neg (by omega),h5];omega))
  ·(repeat' (first|(refine CmpP.go (fun hc => ?_) (fun hc => ?_)<;>first|(exfalso;omega)|(conv=>whnf))|(refine AKM.x ?_;conv=>whnf)|(refine CallP.b (ev_fixed_mode I _) (fun hf => ?_) (fun hf => ?_)<;>(conv=>whnf))))
   all_goals (first|contradiction|(exfalso;omega)|skip)
   all_goals (refine FinP.i ?_;unfold shiftS;rw[if_neg (by omega)])
 ·by_cases hz:n=0
  ·subst hz
   (repeat' (first|(refine CmpP.go (fun hc => ?_) (fun hc => ?_)<;>first|(exfalso;omega)|(conv=>whnf))|(refine AKM.x ?_;conv=>whnf)|(refine CallP.b (ev_fixed_mode I _) (fun hf => ?_) (fun hf => ?_)<;>(conv=>whnf))))
   all_goals (first|contradiction|(exfalso;omega)|skip)
   all_goals (refine FinP.i ?_;unfold shiftS;first|rw[if_pos (by omega),if_pos rfl]|rw[if_neg (by omega)])
  ·(repeat' (first|(refine CmpP.go (fun hc => ?_) (fun hc => ?_)<;>first|(exfalso;omega)|(conv=>whnf))|(refine AKM.x ?_;conv=>whnf)))
   all_goals (first|contradiction|(exfalso;omega)|skip)
   all_goals (refine FinP.i ?_;unfold shiftS;rw[if_neg (by omega)])
end Go.Eng

namespace Go.Eng
open F
attribute [local irreducible] AKM CmpP Req OpP UnP ConvP RdP LdR StR MkR LenP AppR AppN CpyR RowP SnR Bds SlS CallP CalP FinP pw LdM GetM SetM PutM MkM AppM SnM FlP CallR
set_option maxHeartbeats 1000000
variable {L:Lib}
theorem drop_cons {α:Type} {l:List α} {i:Nat} {e:α} (h:l[i]? = some e):l.drop i=e::l.drop (i+1):=by
 obtain ⟨h1,h2⟩:=List.getElem?_eq_some_iff.1 h
 rw[List.drop_eq_getElem_cons h1,h2]
theorem drop_len {α:Type} {l:List α} {i:Nat} (h:l.length≤i):l.drop i=[]:=List.drop_eq_nil_of_le h
theorem ev_ref21_SameInts (I:FixedLib L) (xs ys:List Int) (q1 q2:Bool) (hx:xs.length<9223372036854775808) (hy:ys.length<9223372036854775808):Ev L 20 [.sl q1 (xs.map encInt),.sl q2 (ys.map encInt)] (.bool (decide (xs=ys))):=by
 refine Ev.x I.ref21_SameInts rfl rfl ?_
 (repeat' (first|(refine CmpP.go (fun hc => ?_) (fun hc => ?_)<;>first|(exfalso;omega)|(conv=>whnf))|(refine LenP.go ?_;conv=>whnf)|(refine AKM.x ?_;conv=>whnf)))
 ·exact FinP.df (by intro e;subst e;omega)
 ·have h:=hc
  refine AKM.loop1 (fun i=>xs.length-i) (fun (i:Nat)=>i≤xs.length∧(xs=ys↔xs.drop i=ys.drop i)) (fun i=>[(5,.int .i64 i)]) (fun _=>[]) [] [] 0 (by (conv=>whnf);exact ⟨rfl,rfl,rfl⟩) ⟨by omega,by simp⟩ ?_
  intro i ⟨p1,p2⟩ ih
  (repeat' (first|(refine CmpP.go (fun hc => ?_) (fun hc => ?_)<;>first|(exfalso;omega)|(conv=>whnf))|(refine OpP.add ?_ ?_;omega;conv=>whnf)|(refine LenP.go ?_;conv=>whnf)|(refine RdP.nat ?_ (fun _=>rfl) (fun e he => ?_);omega;conv=>whnf)|(refine AKM.x ?_;conv=>whnf)))
  ·rename_i e1 h1
   refine FinP.df ?_
   rw[p2,drop_cons h1,drop_cons he]
   intro e;exact hc (List.cons.inj e).1
  ·rename_i e1 h1
   refine AKM.back [] (by (conv=>whnf);exact ⟨rfl,rfl,rfl⟩) (ih (i+1) (by omega) ⟨by omega,?_⟩)
   rw[p2,drop_cons h1,drop_cons he,hc]
   simp
  ·refine FinP.dt ?_
   rw[p2,drop_len (by omega),drop_len (by omega)]
structure Nd where
 q:Bool
 ts:List (Int × Int)
abbrev encT (t:Int × Int):List AV:=[.int .i64 t.1,.int .i64 t.2]
abbrev encNd (n:Nd):List AV:=[.sl n.q (n.ts.map encT)]
structure Nt where
 d:Wd
 c:Wd
 s:Int
 qn:Bool
 nodes:List Nd
 qx:Bool
 next:List Int
 out:Int
abbrev encN (n:Nt):List AV:=[.int .i64 n.d.b,.int .i64 n.d.f,.int .i64 n.d.r,.int .i64 n.d.o,.int .i64 n.c.b,.int .i64 n.c.f,.int .i64 n.c.r,.int .i64 n.c.o,.int .i64 n.s,.sl n.qn (n.nodes.map encNd),.sl n.qx (n.next.map encInt),.int .i64 n.out]
def termB (c:Wd) (s:Int) (k:Nat) (t:Int × Int):Bool:=decide (0≤t.1∧t.1≤s+k∧(t.2=pw c.f∨FT c t.2))
def nodesB (c:Wd) (s:Int):Nat→List Nd→Bool
 | _,[]=>true
 | k,n::l=>(decide (n.ts.length≤64)&&n.ts.all (termB c s k))&&nodesB c s (k+1) l
def nextB (m:Int) (l:List Int):Bool:=l.all fun k=>decide (0≤k∧k≤m)
def netB (n:Nt):Bool:=decide (WV n.d)&&decide (WV n.c)&&decide (0≤n.s∧n.s≤64∧n.nodes.length≤64∧(n.next.length:Int)=n.s)&&nodesB n.c n.s 0 n.nodes&&nextB (n.s+n.nodes.length) n.next&&decide (0≤n.out∧n.out≤n.s+n.nodes.length)
variable (n:Nt)
theorem netB_iff:netB n=true↔WV n.d∧WV n.c∧(0≤n.s∧n.s≤64∧n.nodes.length≤64∧(n.next.length:Int)=n.s)∧nodesB n.c n.s 0 n.nodes=true∧nextB (n.s+n.nodes.length) n.next=true∧0≤n.out∧n.out≤n.s+n.nodes.length:=by
 simp only[netB,Bool.and_eq_true,decide_eq_true_eq,and_assoc]
theorem eqF {x:Bool} (h : ¬ x=true):false=x:=by simp at h;rw[h]
theorem eqT {x:Bool} (h:x=true):true=x:=by rw[h]
theorem ev_network_Valid (I:FixedLib L) (J:NetLib L):Ev L 21 [.agg (encN n)] (.bool (netB n)):=by
 refine Ev.x J.network_Valid rfl rfl ?_
 (repeat' (first|(refine CmpP.go (fun hc => ?_) (fun hc => ?_)<;>first|(exfalso;omega)|(conv=>whnf))|(refine LenP.go ?_;conv=>whnf)|(refine AKM.x ?_;conv=>whnf)|(refine CallP.b (ev_fixed_Valid ⟨_,_,_,_⟩ I) (fun hf => ?_) (fun hf => ?_)<;>(conv=>whnf))))
 all_goals try (
  refine FinP.b (eqF ?_)
  rw[netB_iff]
  rintro ⟨x1,x2,x3,_⟩
  first|contradiction|omega)
 rename_i h1 h3 h4 h5
 have h2:=hf
 have h6:=hc
 have h1:WV n.d:=h1
 have h2:WV n.c:=h2
 have hw:=h2
 unfold WV at hw
 refine AKM.loop1 (fun i=>n.nodes.length-i) (fun (i:Nat)=>i≤n.nodes.length∧nodesB n.c n.s i (n.nodes.drop i)=nodesB n.c n.s 0 n.nodes) (fun i=>[(45,.int .i64 i)]) (fun _=>[]) [] [] 0 (by (conv=>whnf);exact ⟨rfl,rfl,rfl⟩) ⟨by omega,rfl⟩ ?_
 intro i ⟨p1,p2⟩ ih
 (repeat' (first|(refine CmpP.go (fun hc => ?_) (fun hc => ?_)<;>first|(exfalso;omega)|(conv=>whnf))|(refine OpP.add ?_ ?_;omega;conv=>whnf)|(refine LenP.go ?_;conv=>whnf)|(refine RdP.nat ?_ (fun _=>rfl) (fun e he => ?_);omega;conv=>whnf)|(refine AKM.x ?_;conv=>whnf)))
 ·rename Nd=>nd
  have hnd:=he
  rw[drop_cons hnd,nodesB,decide_eq_false (by omega)]at p2
  refine FinP.b (eqF ?_)
  rw[netB_iff,←p2];simp
 ·rename Nd=>nd
  have hnd:=he
  rw[drop_cons hnd,nodesB,decide_eq_true (by omega),Bool.true_and]at p2
  refine AKM.loop1 (fun j=>nd.ts.length-j) (fun (j:Nat)=>j≤nd.ts.length∧(nd.ts.drop j).all (termB n.c n.s i)=nd.ts.all (termB n.c n.s i)) (fun j=>[(57,.int .i64 j)]) (fun _=>[]) [] [] 0 (by (conv=>whnf);exact ⟨rfl,rfl,rfl⟩) ⟨by omega,rfl⟩ ?_
  intro j ⟨r1,r2⟩ ih2
  (repeat' (first|(refine CmpP.go (fun hc => ?_) (fun hc => ?_)<;>first|(exfalso;omega)|(conv=>whnf))|(refine OpP.add ?_ ?_;omega;conv=>whnf)|(refine OpP.shl1 ?_ (fun _ _ => ?_);omega;conv=>whnf)|(refine RdP.nat ?_ (fun _=>rfl) (fun e he => ?_);omega;conv=>whnf)|(refine AKM.x ?_;conv=>whnf)|(refine CallP.b (ev_fixed_Fits ⟨_,_,_,_⟩ I _) (fun hf => ?_) (fun hf => ?_)<;>(conv=>whnf))))
  all_goals try (
   have hb:termB n.c n.s i e=false:=by
    simp only[termB,decide_eq_false_iff_not];intro hh;first|omega|exact absurd hh.2.2 (fun hx=>hx.elim (fun hx=>by omega) (fun hx=>by contradiction))
   rw[drop_cons he,List.all_cons,hb,Bool.false_and]at r2
   rw[←r2,Bool.false_and]at p2
   refine FinP.b (eqF ?_)
   rw[netB_iff,←p2];simp
   done)
  all_goals try (
   have hb:termB n.c n.s i e=true:=by
    simp only[termB,decide_eq_true_eq]
    exact ⟨by omega,by omega,by first|exact Or.inr (by assumption)|exact Or.inl (by assumption)⟩
   rw[drop_cons he,List.all_cons,hb,Bool.true_and]at r2
   exact AKM.back [] (by (conv=>whnf);exact ⟨rfl,rfl,rfl⟩) (ih2 (j+1) (by omega) ⟨by omega,r2⟩))
  rw[drop_len (by omega)]at r2
  rw[←r2,List.all_nil,Bool.true_and]at p2
  exact AKM.back [] (by (conv=>whnf);exact ⟨rfl,rfl,rfl⟩) (ih (i+1) (by omega) ⟨by omega,p2⟩)
 ·rw[drop_len (by omega),nodesB]at p2
  refine AKM.loop1 (fun i=>n.next.length-i) (fun (i:Nat)=>i≤n.next.length∧nextB (n.s+n.nodes.length) (n.next.drop i)=nextB (n.s+n.nodes.length) n.next) (fun i=>[(99,.int .i64 i)]) (fun _=>[]) [] [] 0 (by (conv=>whnf);exact ⟨rfl,rfl,rfl⟩) ⟨by omega,rfl⟩ ?_
  intro k ⟨r1,r2⟩ ih3
  (repeat' (first|(refine CmpP.go (fun hc => ?_) (fun hc => ?_)<;>first|(exfalso;omega)|(conv=>whnf))|(refine OpP.add ?_ ?_;omega;conv=>whnf)|(refine RdP.nat ?_ (fun _=>rfl) (fun e he => ?_);omega;conv=>whnf)|(refine AKM.x ?_;conv=>whnf)))
  all_goals try (
   have hb:decide (0≤e∧e≤n.s+n.nodes.length)=false:=by (rw[decide_eq_false_iff_not];omega)
   rw[drop_cons he,nextB,List.all_cons,hb,Bool.false_and]at r2
   refine FinP.b (eqF ?_)
   rw[netB_iff,←r2];simp
   done)
  all_goals try (
   have hb:decide (0≤e∧e≤n.s+n.nodes.length)=true:=by (rw[decide_eq_true_eq];omega)
   rw[drop_cons he,nextB,List.all_cons,hb,Bool.true_and]at r2
   exact AKM.back [] (by (conv=>whnf);exact ⟨rfl,rfl,rfl⟩) (ih3 (k+1) (by omega) ⟨by omega,r2⟩))
  all_goals (
   rw[drop_len (by omega)]at r2
   first
    | (refine FinP.b (eqT ?_);rw[netB_iff];exact ⟨h1,h2,by omega,p2.symm,r2.symm,by omega,by omega⟩)
    | (refine FinP.b (eqF ?_);rw[netB_iff];omega))
end Go.Eng

namespace Go.Eng
open F
attribute [local irreducible] AKM CmpP Req OpP UnP ConvP RdP LdR StR MkR LenP AppR AppN CpyR RowP SnR Bds SlS CallP CalP FinP pw LdM GetM SetM PutM MkM AppM SnM FlP CallR
set_option maxHeartbeats 1000000
variable {L:Lib}
theorem wrap_InI (n:Int):InI (IntKind.i64.wrap n):=by
 unfold InI
 rw[IntKind.wrap_i64]
 omega
def withS (v m:Int):Int:=if m<1 then 0 else v%m
theorem ev_world_Within (W:WorldLib L) (v m:Int) (hv:InI v) (hm:m≤9223372036854775807):Ev L 34 [.int .i64 v,.int .i64 m] (.int .i64 (withS v m)):=by
 unfold InI at hv
 refine Ev.x W.world_Within rfl rfl ?_
 (repeat' (first|(refine CmpP.go (fun hc => ?_) (fun hc => ?_)<;>first|(exfalso;omega)|(conv=>whnf))|(refine OpP.add ?_ ?_;omega;conv=>whnf)|(refine OpP.rem ?_ (fun _ _ _ => ?_) (fun _ _ _ _ => ?_);omega;all_goals first|(exfalso;omega)|(conv=>whnf))|(refine AKM.x ?_;conv=>whnf)))
 all_goals (refine FinP.i ?_;unfold withS;first|rw[if_pos (by omega)]|rw[if_neg (by omega)])
 all_goals omega
def atS (l:List Int) (i:Int):Int:=if 0≤i∧i<l.length then l.getD i.toNat 0 else 0
theorem ev_world_At (W:WorldLib L) (l:List Int) (q:Bool) (i:Int):Ev L 35 [.sl q (l.map encInt),.int .i64 i] (.int .i64 (atS l i)):=by
 refine Ev.x W.world_At rfl rfl ?_
 (repeat' (first|(refine CmpP.go (fun hc => ?_) (fun hc => ?_)<;>first|(exfalso;omega)|(conv=>whnf))|(refine LenP.go ?_;conv=>whnf)|(refine RdP.go ?_ (fun _=>rfl) (fun e he => ?_);omega;conv=>whnf)|(refine AKM.x ?_;conv=>whnf)))
 all_goals (refine FinP.i ?_;unfold atS;first|rw[if_neg (by omega)]|(rw[if_pos (by omega),List.getD_eq_getElem?_getD,he];rfl))
theorem with_range {v m:Int} (h:1≤m):0≤withS v m∧withS v m<m:=by
 unfold withS
 rw[if_neg (by omega)]
 exact ⟨Int.emod_nonneg _ (by omega),Int.emod_lt_of_pos _ (by omega)⟩
def wordS (k least most above:Int):Wd :=
 let K:=withS k 1099511627776
 let b:=least+K%(most-least+1)
 let K1:=K/(most-least+1)
 ⟨b,max (b-1-above-K1%2) 0,1+K1/2%3,1+K1/2/3%2⟩
theorem ev_world_Word (W:WorldLib L) (k least most above:Int) (hk:InI k) (h1:1≤least∧least≤most∧most≤1000∧0≤above∧above≤1000):Ev L 36 [.int .i64 k,.int .i64 least,.int .i64 most,.int .i64 above] (.agg (encW (wordS k least most above))):=by
 refine Ev.x W.world_Word rfl rfl ?_
 have hr:=with_range (v:=k) (m:=1099511627776) (by omega)
 have h3:0≤withS k 1099511627776/(most-least+1):=Int.ediv_nonneg hr.1 (by omega)
 have h4:withS k 1099511627776/(most-least+1)≤withS k 1099511627776:=Int.ediv_le_self _ hr.1
 (repeat' (first|(refine CmpP.go (fun hc => ?_) (fun hc => ?_)<;>first|(exfalso;omega)|(conv=>whnf))|(refine OpP.add ?_ ?_;omega;conv=>whnf)|(refine OpP.sub ?_ ?_;omega;conv=>whnf)|(refine OpP.rem ?_ (fun _ _ _ => ?_) (fun _ _ _ _ => ?_);omega;all_goals first|(exfalso;omega)|(conv=>whnf))|(refine OpP.quo ?_ ?_ (fun _ => ?_) (fun _ _ => ?_);omega;omega;all_goals first|(exfalso;omega)|(conv=>whnf))|(refine AKM.x ?_;conv=>whnf)|(refine CallP.go (ev_world_Within W _ _ hk (by omega)) ?_;conv=>whnf)))
 all_goals (
  refine FinP.go ?_ (by simp [Clean,CleanL])
  simp only[wordS,AV.agg.injEq,List.cons.injEq,AV.int.injEq,true_and,and_true]
  omega)
def dataS (k:Int):Wd:=wordS k 6 12 2
def coefS (k:Int):Wd:=wordS k 6 9 1
theorem word_ok {k least most above:Int} (h:4≤least∧least≤most∧most≤24∧0≤above):WV (wordS k least most above)∧least≤(wordS k least most above).b∧(wordS k least most above).b≤most:=by
 have hr:=with_range (v:=k) (m:=1099511627776) (by omega)
 have h1:0≤withS k 1099511627776%(most-least+1):=Int.emod_nonneg _ (by omega)
 have h2:withS k 1099511627776%(most-least+1)<most-least+1:=Int.emod_lt_of_pos _ (by omega)
 simp only[WV,wordS]
 generalize withS k 1099511627776/(most-least+1)=d
 omega
theorem data_ok (k:Int):WV (dataS k)∧6≤(dataS k).b∧(dataS k).b≤12:=word_ok (by omega)
theorem coef_ok (k:Int):WV (coefS k)∧6≤(coefS k).b∧(coefS k).b≤9:=word_ok (by omega)
theorem ev_world_Data (W:WorldLib L) (k:Int) (hk:InI k):Ev L 37 [.int .i64 k] (.agg (encW (dataS k))):=by
 refine Ev.x W.world_Data rfl rfl ?_
 (repeat' (first|(refine AKM.x ?_;conv=>whnf)|(refine CallP.go (ev_world_Word W _ _ _ _ hk (by omega)) ?_;conv=>whnf)))
 exact FinP.go rfl (by simp [Clean,CleanL])
theorem ev_world_Coef (W:WorldLib L) (k:Int) (hk:InI k):Ev L 38 [.int .i64 k] (.agg (encW (coefS k))):=by
 refine Ev.x W.world_Coef rfl rfl ?_
 (repeat' (first|(refine AKM.x ?_;conv=>whnf)|(refine CallP.go (ev_world_Word W _ _ _ _ hk (by omega)) ?_;conv=>whnf)))
 exact FinP.go rfl (by simp [Clean,CleanL])
theorem low_high {w:Wd} (h:WV w):lowS w = -pw (w.b-1)∧highS w=pw (w.b-1)-1∧1≤pw (w.b-1)∧pw (w.b-1)≤8388608:=by
 have h':=h
 unfold WV at h'
 refine ⟨by rw[lowS,if_pos h],by rw[highS,if_pos h],pw_pos _,?_⟩
 have:=pw_le (n:=w.b-1) (m:=23) (by omega)
 have e:pw 23=8388608:=by unfold pw;rfl
 omega
theorem range_snoc {α:Type} (f:Nat→α) (n:Nat):(List.range (n+1)).map f=(List.range n).map f++[f n]:=by rw[List.range_succ,List.map_append];rfl
def toB (b v:Int):Int:=withS (IntKind.i64.wrap (v+b)) (2*b+1)-b
def belowS (b:Int) (l:List Int) (n:Nat):List Int:=(List.range n).map fun i:Nat=>toB b (atS l (i:Int))
theorem ev_world_Below (W:WorldLib L) (b:Int) (hb:0≤b∧b≤1000000000000) (l:List Int) (q:Bool) (n:Nat) (hn:n≤1000000):Ev L 40 [.int .i64 b,.sl q (l.map encInt),.int .i64 n] (.sl false ((belowS b l n).map encInt)):=by
 refine Ev.x W.world_Below rfl rfl ?_
 (repeat' (refine AKM.x ?_;conv=>whnf))
 refine AKM.loop2 (fun i _=>n-i) (fun (i:Nat) (o:List Int)=>i≤n∧o.length=i∧o=belowS b l i) (fun i o=>[(7,.row 7 0 1 0 o.length),(8,.int .i64 i)]) (fun i o=>[(7,7,.rw 1 (o.map encInt))]) [] [] 0 [] (by (conv=>whnf);exact ⟨rfl,rfl,rfl⟩) ⟨by omega,rfl,rfl⟩ ?_
 intro i o ⟨p1,p2,p3⟩ ih
 have hr:=with_range (v:=IntKind.i64.wrap (atS l i+b)) (m:=2*b+1) (by omega)
 (repeat' (first|(refine CmpP.go (fun hc => ?_) (fun hc => ?_)<;>first|(exfalso;omega)|(conv=>whnf))|(refine OpP.add ?_ ?_;omega;conv=>whnf)|(refine OpP.sub ?_ ?_;omega;conv=>whnf)|(refine OpP.mul ?_ ?_;omega;conv=>whnf)|(refine OpP.wadd ?_;conv=>whnf)|(refine SnR.all (fun _=>rfl) rfl ?_ ?_;(first|rfl|simp);conv=>whnf)|(refine RowP.e1 ?_;conv=>whnf)|(refine AKM.x ?_;conv=>whnf)|(refine CallP.go (ev_world_At W l _ _) ?_;conv=>whnf)|(refine CallP.go (ev_world_Within W _ _ (wrap_InI _) (by omega)) ?_;conv=>whnf)))
 ·refine AppR.one (enc:=encInt) _ rfl rfl rfl (by omega) (by omega) ?_
  (conv=>whnf)
  (repeat' (refine OpP.add ?_ ?_;omega;conv=>whnf))
  refine AKM.back [(7,27)] (by (conv=>whnf);exact ⟨rfl,rfl,rfl⟩) (ih (i+1) _ (by omega) ⟨by omega,by simp [p2],?_⟩)
  rw[belowS,range_snoc,p3];rfl
 ·have:i=n:=by omega
  subst this
  exact FinP.go (by rw[p3]) (by simp [Clean,cl_ints])
end Go.Eng

namespace Go.Eng
open F
attribute [local irreducible] AKM CmpP Req OpP UnP ConvP RdP LdR StR MkR LenP AppR AppN CpyR RowP SnR Bds SlS CallP CalP FinP pw LdM GetM SetM PutM MkM AppM SnM FlP CallR
set_option maxHeartbeats 1000000
variable {L:Lib} (n:Nt)
def wordsB (w:Wd) (l:List Int):Bool:=l.all fun v=>decide (FT w v)
def wrongS (st ins:List Int):Int:=if (st.length:Int)≠n.s then 1 else if wordsB n.d st&&wordsB n.d ins then 0 else 17
theorem ev_network_wrong (I:FixedLib L) (J:NetLib L) (st ins:List Int) (q1 q2:Bool) (hn:st.length<9223372036854775808) (hm:ins.length<9223372036854775808):Ev L 22 [.agg (encN n),.sl q1 (st.map encInt),.sl q2 (ins.map encInt)] (.int .i64 (wrongS n st ins)):=by
 refine Ev.x J.network_wrong rfl rfl ?_
 (repeat' (first|(refine CmpP.go (fun hc => ?_) (fun hc => ?_)<;>first|(exfalso;omega)|(conv=>whnf))|(refine LenP.go ?_;conv=>whnf)|(refine AKM.x ?_;conv=>whnf)))
 ·exact FinP.i (by rw[wrongS,if_pos hc])
 have h0:=hc
 refine AKM.loop1 (fun i=>st.length-i) (fun (i:Nat)=>i≤st.length∧wordsB n.d (st.drop i)=wordsB n.d st) (fun i=>[(18,.int .i64 i)]) (fun _=>[]) [] [] 0 (by (conv=>whnf);exact ⟨rfl,rfl,rfl⟩) ⟨by omega,rfl⟩ ?_
 intro i ⟨p1,p2⟩ ih
 (repeat' (first|(refine CmpP.go (fun hc => ?_) (fun hc => ?_)<;>first|(exfalso;omega)|(conv=>whnf))|(refine OpP.add ?_ ?_;omega;conv=>whnf)|(refine LenP.go ?_;conv=>whnf)|(refine RdP.nat ?_ (fun _=>rfl) (fun e he => ?_);omega;conv=>whnf)|(refine AKM.x ?_;conv=>whnf)|(refine CallP.b (ev_fixed_Fits ⟨_,_,_,_⟩ I _) (fun hf => ?_) (fun hf => ?_)<;>(conv=>whnf))))
 ·rw[drop_cons he,wordsB,List.all_cons,decide_eq_true hf,Bool.true_and]at p2
  exact AKM.back [] (by (conv=>whnf);exact ⟨rfl,rfl,rfl⟩) (ih (i+1) (by omega) ⟨by omega,p2⟩)
 ·rw[drop_cons he,wordsB,List.all_cons,decide_eq_false hf,Bool.false_and]at p2
  exact FinP.i (by rw[wrongS,if_neg (by omega),←p2];simp)
 ·rw[drop_len (by omega)]at p2
  refine AKM.loop1 (fun i=>ins.length-i) (fun (i:Nat)=>i≤ins.length∧wordsB n.d (ins.drop i)=wordsB n.d ins) (fun i=>[(30,.int .i64 i)]) (fun _=>[]) [] [] 0 (by (conv=>whnf);exact ⟨rfl,rfl,rfl⟩) ⟨by omega,rfl⟩ ?_
  intro j ⟨r1,r2⟩ ih2
  (repeat' (first|(refine CmpP.go (fun hc => ?_) (fun hc => ?_)<;>first|(exfalso;omega)|(conv=>whnf))|(refine OpP.add ?_ ?_;omega;conv=>whnf)|(refine RdP.nat ?_ (fun _=>rfl) (fun e he => ?_);omega;conv=>whnf)|(refine AKM.x ?_;conv=>whnf)|(refine CallP.b (ev_fixed_Fits ⟨_,_,_,_⟩ I _) (fun hf => ?_) (fun hf => ?_)<;>(conv=>whnf))))
  ·rw[drop_cons he,wordsB,List.all_cons,decide_eq_true hf,Bool.true_and]at r2
   exact AKM.back [] (by (conv=>whnf);exact ⟨rfl,rfl,rfl⟩) (ih2 (j+1) (by omega) ⟨by omega,r2⟩)
  ·rw[drop_cons he,wordsB,List.all_cons,decide_eq_false hf,Bool.false_and]at r2
   exact FinP.i (by rw[wrongS,if_neg (by omega),←r2];simp)
  ·rw[drop_len (by omega)]at r2
   exact FinP.i (by rw[wrongS,if_neg (by omega),←r2,←p2];rfl)
def sumS (vals:List Int):Int→List (Int × Int)→Int
 | acc,[]=>acc
 | acc,t::ts=>sumS vals (IntKind.i64.wrap (acc+IntKind.i64.wrap (t.2*vals.getD t.1.toNat 0))) ts
theorem sumS_InI (vals:List Int) : ∀ (ts:List (Int × Int)) (acc:Int),InI acc→InI (sumS vals acc ts)
 | [],acc,h=>h
 | t::ts,acc,_=>sumS_InI vals ts _ (wrap_InI _)
def nodeS (vals:List Int) (nd:Nd):Int:=shiftS (sumS vals 0 nd.ts) n.c.f n.d.r
def compS:List Int→Bool→List Nd→List Int × Bool
 | vals,ov,[]=>(vals,ov)
 | vals,ov,nd::l=>compS (vals++[redS n.d (nodeS n vals nd)]) (ov || !decide (FT n.d (nodeS n vals nd))) l
theorem node_ok {vals:List Int} {i:Nat} {nd:Nd} (h:nd.ts.all (termB n.c n.s i)=true) (hl:(vals.length:Int)=1+n.s+i) : ∀ t∈nd.ts,0≤t.1∧t.1<vals.length:=fun t ht=>by
 have:=List.all_eq_true.1 h t ht
 simp only[termB,decide_eq_true_eq]at this
 omega
theorem ev_network_compute (I:FixedLib L) (J:NetLib L) (st:List Int) (q1:Bool) (input:Int) (hv:netB n=true) (hst:(st.length:Int)=n.s):Ev L 23 [.agg (encN n),.sl q1 (st.map encInt),.int .i64 input] (.tup [.sl false ((compS n (input::st) false n.nodes).1.map encInt),.bool (compS n (input::st) false n.nodes).2]):=by
 rw[netB_iff]at hv
 obtain ⟨h1,h2,h3,h4,h5,h6⟩:=hv
 refine Ev.x J.network_compute rfl rfl ?_
 (repeat' (first|(refine OpP.add ?_ ?_;omega;conv=>whnf)|(refine LenP.go ?_;conv=>whnf)|(refine AKM.x ?_;conv=>whnf)))
 refine MkR.go (enc:=encInt) 0 0 rfl rfl (by omega) ?_
 (conv=>whnf)
 (repeat' (refine RowP.e1 ?_;conv=>whnf))
 refine AppR.one (enc:=encInt) (l:=[]) input rfl rfl rfl (by simp) (by simp) ?_
 (conv=>whnf)
 refine AppR.many (enc:=encInt) rfl (fun _=>rfl) (by simp;omega) (by simp;omega) ?_
 (conv=>whnf)
 (repeat' (refine LenP.go ?_;conv=>whnf))
 refine AKM.loop3 (fun i _ _=>n.nodes.length-i) (fun (i:Nat) (vals:List Int) (ov:Bool)=>i≤n.nodes.length∧(vals.length:Int)=1+n.s+i∧nodesB n.c n.s i (n.nodes.drop i)=true∧compS n vals ov (n.nodes.drop i)=compS n (input::st) false n.nodes) (fun i vals ov=>[(8,.row 30 0 1 0 vals.length),(9,.bool ov),(34,.int .i64 i)]) (fun i vals ov=>[(30,23,.rw 1 (vals.map encInt))]) [] [] 0 (input::st) false (by (conv=>whnf);exact ⟨rfl,rfl,rfl⟩) ⟨by simp,by simp;omega,h4,rfl⟩ ?_
 intro i vals ov ⟨p1,p2,p3,p4⟩ ih
 (repeat' (first|(refine CmpP.go (fun hc => ?_) (fun hc => ?_)<;>first|(exfalso;omega)|(conv=>whnf))|(refine LenP.go ?_;conv=>whnf)|(refine RdP.nat ?_ (fun _=>rfl) (fun e he => ?_);omega;conv=>whnf)|(refine SnR.all (fun _=>rfl) rfl ?_ ?_;(first|rfl|simp);conv=>whnf)|(refine AKM.x ?_;conv=>whnf)))
 ·rename Nd=>nd
  have hnd:=he
  rw[drop_cons hnd]at p3 p4
  simp only[nodesB,Bool.and_eq_true,decide_eq_true_eq]at p3
  obtain ⟨⟨hnt,hts⟩,hvr⟩:=p3
  have hf:=node_ok n hts p2
  have hI:InI (sumS vals 0 nd.ts):=sumS_InI vals _ _ (by unfold InI;omega)
  refine AKM.loop2 (fun j _=>nd.ts.length-j) (fun (j:Nat) (acc:Int)=>j≤nd.ts.length∧sumS vals acc (nd.ts.drop j)=sumS vals 0 nd.ts) (fun j acc=>[(12,.int .i64 acc),(41,.int .i64 j)]) (fun _ _=>[]) [] [] 0 0 (by (conv=>whnf);exact ⟨rfl,rfl,rfl⟩) ⟨by simp,rfl⟩ ?_
  intro j acc ⟨r1,r2⟩ ih2
  (repeat' (first|(refine CmpP.go (fun hc => ?_) (fun hc => ?_)<;>first|(exfalso;omega)|(conv=>whnf))|(refine RdP.nat ?_ (fun _=>rfl) (fun e he => ?_);omega;conv=>whnf)|(refine AKM.x ?_;conv=>whnf)))
  ·have:=hf e (List.mem_of_getElem? he)
   (repeat' (first|(refine Req.go ?_ ?_;omega;conv=>whnf)|(refine OpP.add ?_ ?_;omega;conv=>whnf)|(refine OpP.wadd ?_;conv=>whnf)|(refine OpP.wmul ?_;conv=>whnf)|(refine LdR.int ?_ (fun _=>rfl) (fun v hv => ?_);omega;conv=>whnf)))
   rw[drop_cons he,sumS]at r2
   refine AKM.back [] (by (conv=>whnf);exact ⟨rfl,rfl,rfl⟩) (ih2 (j+1) _ (by omega) ⟨by omega,?_⟩)
   rw[←r2,List.getD_eq_getElem?_getD,hv];rfl
  ·rw[drop_len (by omega),sumS]at r2
   subst r2
   cases ov
   all_goals (repeat' (first|(refine RowP.e1 ?_;conv=>whnf)|(refine CallP.b (ev_fixed_Fits ⟨_,_,_,_⟩ I _) (fun hf => ?_) (fun hf => ?_)<;>(conv=>whnf))|(refine CallP.go (ev_fixed_Shift I _ _ _ hI) ?_;conv=>whnf)|(refine CallP.go (ev_fixed_Reduce ⟨_,_,_,_⟩ I _) ?_;conv=>whnf)))
   all_goals (
    refine AppR.one (enc:=encInt) _ rfl rfl rfl (by omega) (by omega) ?_
    (conv=>whnf)
    (repeat' (refine OpP.add ?_ ?_;omega;conv=>whnf))
    refine AKM.back [(30,78)] (by (conv=>whnf);exact ⟨rfl,rfl,rfl⟩) (ih (i+1) _ _ (by omega) ⟨by omega,by simp;omega,hvr,?_⟩)
    rw[←p4,compS]
    first|rfl|(have hf:FT n.d (nodeS n vals nd):=hf;rw[decide_eq_true hf];rfl)|(have hf : ¬ FT n.d (nodeS n vals nd):=hf;rw[decide_eq_false hf];rfl))
 ·rw[drop_len (by omega),compS]at p4
  rw[←p4]
  exact FinP.go rfl (by simp [Clean,CleanL,cl_ints])
theorem wrongS_len {st ins:List Int} (h:wrongS n st ins=0):(st.length:Int)=n.s:=by
 unfold wrongS at h
 split at h
 ·cases h
 ·omega
theorem fill_step {α:Type} {o F:List α} {i:Nat} {v:α} (hl:o.length=F.length) (h:o.take i=F.take i) (hv:F[i]? = some v):(o.set i v).length=F.length∧(o.set i v).take (i+1)=F.take (i+1):=by
 obtain ⟨hi,rfl⟩:=List.getElem?_eq_some_iff.1 hv
 refine ⟨by simp [hl],?_⟩
 rw[List.take_add_one,List.take_add_one,←h]
 congr 1
 ·rw[List.take_set_of_le (Nat.le_refl i)]
 ·rw[hv];simp [hl,hi]
theorem fill_done {α:Type} {o F:List α} {i:Nat} (hl:o.length=F.length) (h:o.take i=F.take i) (hi:F.length≤i):o=F:=by
 rwa [List.take_of_length_le (by omega),List.take_of_length_le hi]at h
def follS (vals:List Int):List Int:=n.next.map fun k=>vals.getD k.toNat 0
theorem ev_network_follow (J:NetLib L) (vals:List Int) (q:Bool) (hv:netB n=true) (hl:(vals.length:Int)=1+n.s+n.nodes.length):Ev L 25 [.agg (encN n),.sl q (vals.map encInt)] (.sl false ((follS n vals).map encInt)):=by
 rw[netB_iff]at hv
 obtain ⟨h1,h2,h3,h4,h5,h6⟩:=hv
 refine Ev.x J.network_follow rfl rfl ?_
 (repeat' (refine AKM.x ?_;conv=>whnf))
 refine MkR.got (enc:=encInt) 0 rfl (by omega) (by omega) ?_
 (conv=>whnf)
 (repeat' (refine LenP.go ?_;conv=>whnf))
 have hF:(follS n vals).length=n.next.length:=by simp [follS]
 refine AKM.loop2 (fun i _=>n.next.length-i) (fun (i:Nat) (o:List Int)=>i≤n.next.length∧o.length=(follS n vals).length∧o.take i=(follS n vals).take i) (fun i o=>[(5,.row 10 0 1 0 o.length),(14,.int .i64 i)]) (fun i o=>[(10,10,.rw 1 (o.map encInt))]) [] [] 0 (List.replicate n.s.toNat 0) (by rw[List.length_replicate];exact (by (conv=>whnf);exact ⟨rfl,rfl,rfl⟩)) ⟨by simp,by simp [hF];omega,by simp⟩ ?_
 intro i o ⟨p1,p2,p3⟩ ih
 (repeat' (first|(refine CmpP.go (fun hc => ?_) (fun hc => ?_)<;>first|(exfalso;omega)|(conv=>whnf))|(refine RdP.nat ?_ (fun _=>rfl) (fun e he => ?_);omega;conv=>whnf)|(refine SnR.all (fun _=>rfl) rfl ?_ ?_;(first|rfl|simp);conv=>whnf)|(refine AKM.x ?_;conv=>whnf)))
 ·have hb:=List.all_eq_true.1 h5 _ (List.mem_of_getElem? he)
  simp only[decide_eq_true_eq]at hb
  (repeat' (first|(refine Req.go ?_ ?_;omega;conv=>whnf)|(refine RdP.go ?_ (fun _=>rfl) (fun e he => ?_);omega;conv=>whnf)))
  rename_i kk hk
  have hF':(follS n vals)[i]? = some e:=by
   simp only[follS,List.getElem?_map,hk,Option.map_some,List.getD_eq_getElem?_getD,he,Option.getD_some]
  obtain ⟨f1,f2⟩:=fill_step p2 p3 hF'
  refine StR.nat (enc:=encInt) e rfl (fun _=>rfl) (by omega) ?_
  (conv=>whnf)
  (repeat' (refine OpP.add ?_ ?_;omega;conv=>whnf))
  exact AKM.back [] (by rw[List.length_set];exact (by (conv=>whnf);exact ⟨rfl,rfl,rfl⟩)) (ih (i+1) (o.set i e) (by omega) ⟨by omega,f1,f2⟩)
 ·exact FinP.go (by rw[fill_done p2 p3 (by omega)]) (by simp [Clean,cl_ints])
theorem comp_len : ∀ (l:List Nd) (vals:List Int) (ov:Bool),(compS n vals ov l).1.length=vals.length+l.length
 | [],vals,ov=>rfl
 | nd::l,vals,ov=>by rw[compS,comp_len l];simp;omega
theorem getD_of {l:List Int} {i:Nat} {e:Int} (h:l[i]? = some e):l.getD i 0=e:=by rw[List.getD_eq_getElem?_getD,h];rfl
end Go.Eng

namespace Go.Eng
open F
attribute [local irreducible] AKM CmpP Req OpP UnP ConvP RdP LdR StR MkR LenP AppR AppN CpyR RowP SnR Bds SlS CallP CalP FinP pw LdM GetM SetM PutM MkM AppM SnM FlP CallR
set_option maxHeartbeats 4000000
variable {L:Lib}
theorem ev_Sound (N:SysGLib L) (S:SysQ) (n k:Nat) (h:S.Ok n k) (hn:n≤64):Ev L 130 [.agg (eS S)] (.bool true):=by
 have h1:=h.la
 have h2:=h.lb
 have h3:=h.lc
 refine Ev.x N.network_Sound rfl rfl ?_
 (repeat' (first|(refine CmpP.go (fun hc => ?_) (fun hc => ?_)<;>first|(exfalso;omega)|(conv=>whnf))|(refine LenP.go ?_;conv=>whnf)|(refine AKM.x ?_;conv=>whnf)))
 refine AKM.loop1 (fun i=>S.a.length-i) (fun (i:Nat)=>i≤S.a.length) (fun i=>[(28,.int .i64 i)]) (fun _=>[]) [] [] 0 (by (conv=>whnf);exact ⟨rfl,rfl,rfl⟩) (by omega) ?_
 intro i p1 ih
 by_cases hi:i<S.a.length
 ·obtain ⟨r,hr⟩ : ∃ r,S.a[i]? = some r:=⟨_,List.getElem?_eq_getElem hi⟩
  have hr':S.a[(i:Int).toNat]? = some r:=hr
  have hrl:=h.lr r (List.mem_of_getElem? hr)
  (repeat' (first|(refine CmpP.go (fun hc => ?_) (fun hc => ?_)<;>first|(exfalso;omega)|(conv=>whnf))|(refine OpP.add ?_ ?_;omega;conv=>whnf)|(refine LenP.go ?_;conv=>whnf)|(refine RdP.at (by assumption) ?_ rfl ?_;omega;conv=>whnf)|(refine AKM.x ?_;conv=>whnf)))
  exact AKM.back [] (by (conv=>whnf);exact ⟨rfl,rfl,rfl⟩) (ih (i+1) (by omega) (by omega))
 ·obtain rfl:i=S.a.length:=by omega
  clear ih
  (repeat' (first|(refine CmpP.go (fun hc => ?_) (fun hc => ?_)<;>first|(exfalso;omega)|(conv=>whnf))|(refine AKM.x ?_;conv=>whnf)))
  exact FinP.b rfl
theorem ev_product (N:SysGLib L) (a b:List Rat) (q1 q2:Bool) (k s:Nat) (hl:a.length=b.length) (ha:Bs k a) (hb:Bs s b) (hK:a.length*(k+s+1)+k+s<2199023255552) (hal:a.length≤1099511627776):Ev L 132 [.sl q1 (a.map eQ),.sl q2 (b.map eQ)] (.agg (eQ (dotQ a b))):=by
 have hO:=ev_rational_Of N.toRatGLib 0 (by omega)
 refine Ev.x N.network_product rfl rfl ?_
 (repeat' (first|(refine LenP.go ?_;conv=>whnf)|(refine AKM.x ?_;conv=>whnf)|(refine CallP.go (hO) ?_;conv=>whnf)))
 refine AKM.loop2 (fun i _=>a.length-i) (fun (i:Nat) (acc:Rat)=>i≤a.length∧acc=dotQ (a.take i) (b.take i)) (fun i acc=>[(11,.int .i64 i)]) (fun i acc=>[(5,5,.bx (eQ acc))]) [] [] 0 ((0:Int):Rat) (by (conv=>whnf);exact ⟨rfl,rfl,rfl⟩) ⟨by omega,by simp [dotQ]⟩ ?_
 intro i acc ⟨p1,p2⟩ ih
 by_cases hi:i<a.length
 ·obtain ⟨x,hx⟩ : ∃ x,a[i]? = some x:=⟨_,List.getElem?_eq_getElem hi⟩
  obtain ⟨y,hy⟩ : ∃ y,b[i]? = some y:=⟨_,List.getElem?_eq_getElem (by omega)⟩
  have hx':a[(i:Int).toNat]? = some x:=hx
  have hy':b[(i:Int).toNat]? = some y:=hy
  have bx:=ha.at hx
  have by':=hb.at hy
  have hS1:=ev_signQ N.toRatGLib bx (by omega)
  have hS2:=ev_signQ N.toRatGLib by' (by omega)
  have hM:=ev_mulQ N.toRatGLib bx by' (by omega) (by omega)
  have hacc:Bt (a.length*(k+s+1)) acc:=by
   rw[p2]
   have:=(ha.take i).dot (hb.take i)
   refine this.le (Nat.mul_le_mul_right _ ?_)
   rw[List.length_take];omega
  have hA:=ev_addQ N.toRatGLib hacc (bx.mul by') (by omega) (by omega)
  have hst:=dotQ_take hx hy
  have z1:=sgn_num (x:=x)
  have z2:=sgn_num (x:=y)
  generalize sgn x.num=sx at *
  generalize sgn y.num=sy at *
  by_cases h1:sx=0
  ·have hx0:=z1.1 h1
   (repeat' (first|(refine CmpP.go (fun hc => ?_) (fun hc => ?_)<;>first|(exfalso;omega)|(conv=>whnf))|(refine OpP.add ?_ ?_;omega;conv=>whnf)|(refine RdP.at (by assumption) ?_ rfl ?_;omega;conv=>whnf)|(refine AKM.x ?_;conv=>whnf)|(refine CallP.go (hS1) ?_;conv=>whnf)))
   refine AKM.back [] (by (conv=>whnf);exact ⟨rfl,rfl,rfl⟩) (ih (i+1) acc (by omega) ⟨by omega,?_⟩)
   rw[hst,hx0,Rat.zero_mul,Rat.add_zero];exact p2
  ·by_cases h2:sy=0
   ·have hy0:=z2.1 h2
    (repeat' (first|(refine CmpP.go (fun hc => ?_) (fun hc => ?_)<;>first|(exfalso;omega)|(conv=>whnf))|(refine OpP.add ?_ ?_;omega;conv=>whnf)|(refine RdP.at (by assumption) ?_ rfl ?_;omega;conv=>whnf)|(refine AKM.x ?_;conv=>whnf)|(refine CallP.go (hS1) ?_;conv=>whnf)|(refine CallP.go (hS2) ?_;conv=>whnf)))
    refine AKM.back [] (by (conv=>whnf);exact ⟨rfl,rfl,rfl⟩) (ih (i+1) acc (by omega) ⟨by omega,?_⟩)
    rw[hst,hy0,Rat.mul_zero,Rat.add_zero];exact p2
   ·(repeat' (first|(refine CmpP.go (fun hc => ?_) (fun hc => ?_)<;>first|(exfalso;omega)|(conv=>whnf))|(refine OpP.add ?_ ?_;omega;conv=>whnf)|(refine RdP.at (by assumption) ?_ rfl ?_;omega;conv=>whnf)|(refine AKM.x ?_;conv=>whnf)|(refine CallP.go (hS1) ?_;conv=>whnf)|(refine CallP.go (hS2) ?_;conv=>whnf)|(refine CallP.go (hM) ?_;conv=>whnf)|(refine CallP.go (hA) ?_;conv=>whnf)))
    refine AKM.back [] (by (conv=>whnf);exact ⟨rfl,rfl,rfl⟩) (ih (i+1) (acc+x*y) (by omega) ⟨by omega,?_⟩)
    rw[hst,←p2]
 ·obtain rfl:i=a.length:=by omega
  clear ih
  rw[dotQ_all rfl]at p2
  rw[←p2]
  (repeat' (first|(refine CmpP.go (fun hc => ?_) (fun hc => ?_)<;>first|(exfalso;omega)|(conv=>whnf))|(refine AKM.x ?_;conv=>whnf)))
  exact FinP.go rfl (cl_eQ _)
end Go.Eng

namespace Go.Eng
def sumQ (vals:List Rat):List (Int × Int)→Rat
 | []=>0
 | t::ts=>(t.2:Rat)*vals.getD t.1.toNat 0+sumQ vals ts
theorem sumQ_snoc (vals:List Rat) (t:Int × Int) : ∀ ts,sumQ vals (ts++[t])=sumQ vals ts+(t.2:Rat)*vals.getD t.1.toNat 0
 | []=>by simp only[List.nil_append,sumQ];grind
 | u::ts=>by simp only[List.cons_append,sumQ];rw[sumQ_snoc vals t ts];grind
theorem sumQ_take {vals:List Rat} {ts:List (Int × Int)} {i:Nat} {t:Int × Int} (h:ts[i]? = some t):sumQ vals (ts.take (i+1))=sumQ vals (ts.take i)+(t.2:Rat)*vals.getD t.1.toNat 0:=by
 rw[List.take_add_one,h,Option.toList_some,sumQ_snoc]
def exS (u:Rat) (ex:Int):Nat→List Rat→List (List (Int × Int))→List Rat
 | _,vals,[]=>vals
 | k,vals,ts::r=>exS u ex (k+1) (vals++[sumQ vals ts/u+(if (k:Int)=ex then 1 else 0)]) r
theorem exS_len (u:Rat) (ex:Int) : ∀ (k:Nat) (vals:List Rat) (l:List (List (Int × Int))),(exS u ex k vals l).length=vals.length+l.length
 | _,_,[]=>rfl
 | k,vals,ts::r=>by rw[exS,exS_len u ex (k+1)];simp;omega
theorem Bs.getD {k:Nat} {l:List Rat} (h:Bs k l) (i:Nat):Bt k (l.getD i 0):=by
 rw[List.getD_eq_getElem?_getD]
 cases e:l[i]? with
 | none=>exact Bt.zero k
 | some x=>exact h.at e
theorem Bs.sum {k j:Nat} {vals:List Rat} (hv:Bs k vals) : ∀ (ts:List (Int × Int)),(∀ t∈ts,Bt j ((t.2:Int):Rat))→Bt (ts.length*(j+k+1)) (sumQ vals ts)
 | [],_=>Bt.zero _
 | t::ts,h=>by
  have h1:=(h t (by simp)).mul (hv.getD t.1.toNat)
  have h2:=Bs.sum hv ts (fun u hu=>h u (by simp [hu]))
  refine (h1.add h2).le ?_
  rw[List.length_cons,Nat.succ_mul];omega
def LinV (C:List (List Rat)) (z vals:List Rat):Prop := ∀ m,m<vals.length→vals.getD m 0=dotQ (C.map fun c=>c.getD m 0) z
theorem dotQ_smul (x:Rat) : ∀ (a z:List Rat),dotQ (a.map fun c=>x*c) z=x*dotQ a z
 | [],z=>by cases z<;>simp [dotQ]
 | p::a,[]=>by simp [dotQ]
 | p::a,q::z=>by
  simp only[List.map_cons,dotQ]
  rw[dotQ_smul x a z];grind
theorem dotQ_mapadd {α:Type} (f g:α→Rat) : ∀ (a:List α) (z:List Rat),dotQ (a.map fun c=>f c+g c) z=dotQ (a.map f) z+dotQ (a.map g) z
 | [],z=>by cases z<;>(simp only[List.map_nil,dotQ];grind)
 | p::a,[]=>by simp only[List.map_cons,dotQ];grind
 | p::a,q::z=>by
  simp only[List.map_cons,dotQ]
  rw[dotQ_mapadd f g a z];grind
theorem dotQ_zero {α:Type} : ∀ (a:List α) (z:List Rat),dotQ (a.map fun _=>(0:Rat)) z=0
 | [],z=>by cases z<;>rfl
 | p::a,[]=>rfl
 | p::a,q::z=>by
  simp only[List.map_cons,dotQ]
  rw[dotQ_zero a z];grind
theorem LinV.sum {C:List (List Rat)} {z vals:List Rat} (h:LinV C z vals) : ∀ (ts:List (Int × Int)),(∀ t∈ts,t.1.toNat<vals.length)→sumQ vals ts=dotQ (C.map fun c=>sumQ c ts) z
 | [],_=>(dotQ_zero C z).symm
 | t::ts,ht=>by
  simp only[sumQ]
  rw[dotQ_mapadd (fun c=>(t.2:Rat)*c.getD t.1.toNat 0) (fun c=>sumQ c ts),←LinV.sum h ts (fun u hu=>ht u (by simp [hu])),h _ (ht t (by simp))]
  have:=dotQ_smul (t.2:Rat) (C.map fun c=>c.getD t.1.toNat 0) z
  rw[List.map_map]at this
  rw[←this];rfl
theorem getD_snoc_lt {l:List Rat} {x:Rat} {m:Nat} (h:m<l.length):(l++[x]).getD m 0=l.getD m 0:=by
 rw[List.getD_eq_getElem?_getD,List.getD_eq_getElem?_getD,List.getElem?_append_left h]
theorem getD_snoc_eq {l:List Rat} {x:Rat} {m:Nat} (h:m=l.length):(l++[x]).getD m 0=x:=by
 subst h
 rw[List.getD_eq_getElem?_getD,List.getElem?_append_right (Nat.le_refl _)];simp
theorem LinV.all {u:Rat} (hu:u≠0) {z:List Rat} : ∀ (l:List (List (Int × Int))) (k:Nat) (C:List (List Rat)) (vals:List Rat),LinV C z vals→(∀ c∈C,c.length=vals.length)→(∀ i ts,l[i]? = some ts → ∀ t∈ts,t.1.toNat<vals.length+i) →
  LinV (C.map fun c=>exS u (-1) k c l) z (exS u (-1) k vals l)
 | [],_,C,vals,h,_,_=>by
  have e:(C.map fun c=>exS u (-1) 0 c [])=C:=by
   simp [exS]
  simpa [exS] using h
 | ts::l,k,C,vals,h,hc,ht=>by
  have hts:=ht 0 ts rfl
  have e0 : ¬ (k:Int) = -1:=by omega
  simp only[exS,if_neg e0,Rat.add_zero]
  have hs:=h.sum ts (fun t h1=>by have:=hts t h1;omega)
  have hstep:LinV (C.map fun c=>c++[sumQ c ts/u]) z (vals++[sumQ vals ts/u]):=by
   intro m hm
   simp only[List.length_append,List.length_cons,List.length_nil]at hm
   rw[List.map_map]
   by_cases hm2:m<vals.length
   ·rw[getD_snoc_lt hm2,h m hm2]
    congr 1
    refine List.map_congr_left fun c hcm => ?_
    simp only[Function.comp]
    rw[getD_snoc_lt (by rw[hc c hcm];exact hm2)]
   ·rw[getD_snoc_eq (by omega)]
    have e1:(C.map ((fun c=>c.getD m 0) ∘ fun c=>c++[sumQ c ts/u]))=C.map fun c=>u⁻¹*sumQ c ts:=by
     refine List.map_congr_left fun c hcm => ?_
     simp only[Function.comp]
     rw[getD_snoc_eq (by rw[hc c hcm];omega),Rat.div_def,Rat.mul_comm]
    rw[e1,hs,Rat.div_def,Rat.mul_comm]
    have:=dotQ_smul u⁻¹ (C.map fun c=>sumQ c ts) z
    rw[List.map_map]at this
    rw[←this];rfl
  have ih:=LinV.all hu l (k+1) (C.map fun c=>c++[sumQ c ts/u]) (vals++[sumQ vals ts/u]) hstep (fun c hcm=>by
   obtain ⟨c0,h0,rfl⟩:=List.mem_map.1 hcm
   simp [hc c0 h0]) (fun i ts2 h2 t h3=>by
   have:=ht (i+1) ts2 h2 t h3
   simp;omega)
  rw[List.map_map]at ih
  exact ih
def gS:Nat→Nat
 | 0=>0
 | i+1=>5*gS i+150
theorem gS_mono (i:Nat):gS i≤gS (i+1):=by rw[gS];omega
theorem Bt.ofInt {k:Nat} {z:Int} (h:z.natAbs≤2^k):Bt k ((z:Int):Rat):=⟨by rw[Rat.num_intCast];exact h,by rw[Rat.den_intCast];exact Nat.one_le_two_pow⟩
theorem Bt.divz {k j:Nat} {x:Rat} {z:Int} (h:Bt k x) (hz:1≤z) (hj:z.natAbs≤2^j):Bt (k+j) (x/(z:Rat)):=by
 obtain ⟨d,rfl⟩:=Int.eq_ofNat_of_zero_le (show 0≤z by omega)
 have e:x/((d:Int):Rat)=x*mkRat 1 d:=by
  rw[Rat.div_def,Rat.mkRat_eq_div,Rat.div_def]
  congr 1
  rw[show ((1:Int):Rat)=1 from rfl,Rat.one_mul];rfl
 rw[e]
 exact h.mul (Bt.mk (by simp;exact Nat.one_le_two_pow) (by simpa using hj))
structure SmallN (l:List (List (Int × Int))):Prop where
 len : ∀ ts∈l,ts.length≤5
 cf : ∀ ts∈l,∀ t∈ts,t.2.natAbs≤2^24
theorem node_bt {ts:List (Int × Int)} {vals:List Rat} {k:Nat} {z:Int} (h1:ts.length≤5) (h2 : ∀ t∈ts,t.2.natAbs≤2^24) (hv:Bs k vals) (hz:1≤z) (hz2:z.natAbs≤2^24) (b:Bool):Bt (5*k+150) (sumQ vals ts/(z:Rat)+(if b=true then 1 else 0)):=by
 have a1:=hv.sum ts (j:=24) (fun t ht=>Bt.ofInt (h2 t ht))
 have a2:Bt (5*(24+k+1)) (sumQ vals ts):=a1.le (Nat.mul_le_mul_right _ h1)
 have a3:=a2.divz hz hz2
 have a4:Bt 0 (if b=true then (1:Rat) else 0):=by cases b<;>first|exact Bt.zero 0|exact Bt.one 0
 exact (a3.add a4).le (by omega)
theorem exS_bs {z ex:Int} (hz:1≤z) (hz2:z.natAbs≤2^24) : ∀ (l:List (List (Int × Int))) (k:Nat) (vals:List Rat),SmallN l→Bs (gS k) vals→Bs (gS (k+l.length)) (exS (z:Rat) ex k vals l)
 | [],k,vals,_,hv=>hv
 | ts::l,k,vals,h,hv=>by
  have h1:=node_bt (h.len ts (by simp)) (h.cf ts (by simp)) hv hz hz2 (decide ((k:Int)=ex))
  simp only[decide_eq_true_eq]at h1
  rw[exS,List.length_cons,show k+(l.length+1)=k+1+l.length by omega]
  refine exS_bs hz hz2 l (k+1) _ ⟨fun t ht=>h.len t (by simp [ht]),fun t ht=>h.cf t (by simp [ht])⟩ ?_
  intro x hx
  rcases List.mem_append.1 hx with hx|hx
  ·exact (hv x hx).le (gS_mono k)
  ·simp only[List.mem_singleton]at hx
   rw[hx]
   exact h1
theorem exS_take (u:Rat) (ex:Int) (vals:List Rat) (l:List (List (Int × Int))) (i:Nat) (ts:List (Int × Int)) (h:l[i]? = some ts):exS u ex 0 vals (l.take (i+1))=exS u ex 0 vals (l.take i)++[sumQ (exS u ex 0 vals (l.take i)) ts/u+(if (i:Int)=ex then 1 else 0)]:=by
 have key : ∀ (l:List (List (Int × Int))) (k:Nat) (vals:List Rat) (ts:List (Int × Int)),exS u ex k vals (l++[ts])=exS u ex k vals l++[sumQ (exS u ex k vals l) ts/u+(if ((k+l.length:Nat):Int)=ex then 1 else 0)]:=by
  intro l
  induction l with
  | nil=>intro k vals ts;simp [exS]
  | cons a l ih =>
   intro k vals ts
   rw[List.cons_append,exS,ih,exS,List.length_cons,show k+1+l.length=k+(l.length+1) by omega]
 have hi:=(List.getElem?_eq_some_iff.1 h).1
 rw[List.take_add_one,h,Option.toList_some,key,List.length_take,Nat.min_eq_left (by omega),Nat.zero_add]
end Go.Eng

namespace Go.Eng
theorem mxB_none (σ:Stp) (k:Nat) : ∀ (n i:Nat),mxB σ k i (List.replicate n none)=List.replicate n [.nil]
 | 0,_=>rfl
 | n+1,i=>by
  rw[List.replicate_succ,List.replicate_succ]
  show [AV.nil]::mxB σ k (i+1) (List.replicate n none)=_
  rw[mxB_none σ k n (i+1)]
theorem AKM.mxN {L:Lib} {kk:List It} {tm:Tm} {M:Mem} {Q:Tm→Mem→Prop} (k s n:Nat) (e:mget M k=some (s,.mx (List.replicate n none))) (h:AKM L kk tm ((k,s,.rw 1 (List.replicate n [.nil]))::M) Q):AKM L kk tm M Q:=by
 intro σ st hr
 have hg : ∀ j t c,mref ((k,s,.rw 1 (List.replicate n [.nil]))::M) j t=some c → ∃ c0,mref M j t=some c0∧c0.blk σ j=c.blk σ j:=by
  intro j t c g
  by_cases hj:j=k
  ·subst hj
   cases t with
   | zero =>
    have h1:mget ((j,s,Cel.rw 1 (List.replicate n [.nil]))::M) j=some (s,.rw 1 (List.replicate n [.nil])):=by simp [mget]
    simp only[mref,h1,Option.some.injEq]at g
    subst g
    refine ⟨.mx (List.replicate n none),by simp only[mref,e],?_⟩
    simp only[Cel.blk,mxB_none]
   | succ i =>
    have h1:mget ((j,s,Cel.rw 1 (List.replicate n [.nil]))::M) j=some (s,.rw 1 (List.replicate n [.nil])):=by simp [mget]
    simp only[mref,h1]at g
    cases g
  ·have h1:mget ((k,s,Cel.rw 1 (List.replicate n [.nil]))::M) j=mget M j:=by
    have hb:Nat.beq j k=false:=by
     cases hbb:Nat.beq j k with
     | false=>rfl
     | true=>exact absurd (Nat.eq_of_beq_eq_true hbb) hj
    simp only[mget,hb,cond_false]
   refine ⟨c,?_,rfl⟩
   simp only[mref,h1]at g ⊢
   exact g
 refine h σ st ⟨hr.tm,⟨?_,?_,?_,?_⟩⟩
 ·intro j s' c g
  by_cases hj:j=k
  ·subst hj
   have h1:mget ((j,s,Cel.rw 1 (List.replicate n [.nil]))::M) j=some (s,.rw 1 (List.replicate n [.nil])):=by simp [mget]
   rw[h1]at g
   simp only[Option.some.injEq,Prod.mk.injEq]at g
   obtain ⟨rfl,_⟩:=g
   exact hr.sat.site _ _ _ e
  ·have h1:mget ((k,s,Cel.rw 1 (List.replicate n [.nil]))::M) j=mget M j:=by
    have hb:Nat.beq j k=false:=by
     cases hbb:Nat.beq j k with
     | false=>rfl
     | true=>exact absurd (Nat.eq_of_beq_eq_true hbb) hj
    simp only[mget,hb,cond_false]
   rw[h1]at g
   exact hr.sat.site _ _ _ g
 ·intro j t c g
  obtain ⟨c0,q1,q2⟩:=hg j t c g
  rw[←q2];exact hr.sat.blk _ _ _ q1
 ·intro j t c g
  obtain ⟨c0,q1,_⟩:=hg j t c g
  exact hr.sat.old _ _ _ q1
 ·intro j t j' t' c c' g g' hσ
  obtain ⟨c0,q1,_⟩:=hg j t c g
  obtain ⟨c1,q2,_⟩:=hg j' t' c' g'
  exact hr.sat.inj _ _ _ _ _ _ q1 q2 hσ
end Go.Eng

namespace Go.Eng
variable {L:Lib}
def RetR (fn:AFn) (z:Nat) (es:List (List AV)) (tm:Tm) (M:Mem):Prop:=match fn.res with
 | [.tmp t]=>match tg tm t with
  | .row k 0 z' 0 n=>match mget M k with
   | some (_,.rw z'' es')=>z'=z∧z''=z∧n=es.length∧es'=es∧CleanLL es
   | _=>False
  | _=>False
 | _=>False
theorem EvR.x {f:Nat} {fn:AFn} {vs:List AV} {z:Nat} {es:List (List AV)} (hL:L f=some fn) (hp:Nat.beq vs.length fn.pars=true) (hd:datAL vs=true) (h:AKM L [.code fn.body] (initTm 0 vs) [] (RetR fn z es)):EvR L f vs z es:=by
 obtain ⟨n,c,st',hr,σ,tm,M,hR,hq⟩:=h (fun _ _=>(0,0)) ⟨initTm 0 vs,Own.emp⟩ ⟨fun j=>Or.inr (by rw[tg_eq];exact datAL_tg hd j),⟨(fun _ _ _ e=>by cases e),(fun _ _ _ e=>by simp [mref,mget]at e),(fun _ _ _ e=>by simp [mref,mget]at e),(fun _ _ _ _ _ _ e=>by simp [mref,mget]at e)⟩⟩
 unfold RetR at hq
 split at hq
 ·rename_i t hres
  split at hq
  ·rename_i k z' m htm
   split at hq
   ·rename_i s z'' es' hM
    obtain ⟨rfl,rfl,rfl,rfl,hcl⟩:=hq
    have hv:tget st'.tm t = .row (σ k 0).1 (σ k 0).2 z'' 0 es'.length:=by
     rcases hR.tm t with e|e
     ·rw[htm]at e;cases e
     ·rw[e,htm];rfl
    have hb:=hR.sat.blk k 0 (.rw z'' es') (by simp only[mref,hM])
    obtain ⟨q,hq⟩:=EvI.intro (r := .row (σ k 0).1 (σ k 0).2 z'' 0 es'.length) (o':=st'.own) hL (beq_iff.1 hp) ⟨n,c,st',hr,by simp [hres,resOf,hv,resTmp,resVal],rfl⟩
    refine ⟨q,?_⟩
    simp only[hq,adoptR,Own.get,hb]
    rw[if_pos (show (Cel.blk σ k (.rw z'' es')).es.length=es'.length∧CleanLL (Cel.blk σ k (.rw z'' es')).es from ⟨rfl,hcl⟩)]
    rfl
   ·exact hq.elim
  ·exact hq.elim
 ·exact hq.elim
theorem CallR.go {α:Type} {enc:α→List AV} {l:List α} {f z:Nat} {vs:List AV} {K:Nat→List (List AV)→Nat→Prop} (n:Nat) (h:EvR L f vs z (l.map enc)) (hn:n=l.length) (hk:K z (l.map enc) n):CallR L f vs K:=⟨z,_,n,h,by simpa using hn,hk⟩
end Go.Eng



namespace Go.Eng
open F
attribute [local irreducible] AKM CmpP Req OpP UnP ConvP RdP LdR StR MkR LenP AppR AppN CpyR RowP SnR Bds SlS CallP CalP FinP pw LdM GetM SetM PutM MkM AppM SnM FlP CallR
set_option maxHeartbeats 4000000
variable {L:Lib}
def tsOf (n:Nt):List (List (Int × Int)):=n.nodes.map Nd.ts
def spreadQ (n:Nt) (src ex:Int):List Rat:=exS ((pw n.c.f:Int):Rat) ex 0 (unitL (1+n.s).toNat src) (tsOf n)
theorem nodesB_at {c:Wd} {s:Int} : ∀ {l:List Nd} {k j:Nat} {nd:Nd},nodesB c s k l=true→l[j]? = some nd→nd.ts.all (termB c s (k+j))=true
 | [],_,_,_,_,h=>by simp at h
 | e::l,k,0,nd,hb,h=>by
  simp only[List.getElem?_cons_zero,Option.some.injEq]at h
  subst h
  simp only[nodesB,Bool.and_eq_true]at hb
  exact hb.1.2
 | e::l,k,j+1,nd,hb,h=>by
  simp only[List.getElem?_cons_succ]at h
  simp only[nodesB,Bool.and_eq_true]at hb
  rw[show k+(j+1)=k+1+j by omega]
  exact nodesB_at hb.2 h
theorem unit_set (m p:Nat):(List.replicate m (0:Rat)).set p 1=unitL m p:=by
 refine List.ext_getElem? fun j => ?_
 simp only[unitL,List.getElem?_set,List.getElem?_map,List.getElem?_replicate,List.length_replicate]
 by_cases h:j<m
 ·rw[List.getElem?_range h]
  by_cases e:p=j
  ·subst e;simp [h]
  ·simp [h,e];intro h3;omega
 ·rw[List.getElem?_eq_none (by simpa using h)]
  simp [h]
  intro e;omega
theorem Bs.unit (k m:Nat) (p:Int):Bs k (unitL m p):=by
 intro x hx
 simp only[unitL,List.mem_map]at hx
 obtain ⟨a,_,rfl⟩:=hx
 split
 ·exact Bt.one k
 ·exact Bt.zero k
theorem ev_zerosR (N:SysGLib L) (m:Nat) (hm:m≤65536):EvR L 131 [.int .i64 (m:Int)] 3 ((List.replicate m (0:Rat)).map eQ):=by
 have hO:=ev_rational_Of N.toRatGLib 0 (by omega)
 refine EvR.x N.network_zeros rfl rfl ?_
 (repeat' (refine AKM.x ?_;conv=>whnf))
 refine MkR.go (enc:=eO) none m rfl rfl (by omega) ?_
 (conv=>whnf)
 skip
 refine AKM.loop1 (fun i=>m-i) (fun (i:Nat)=>i≤m) (fun i=>[(9,.int .i64 i)]) (fun i=>[(131006,131006,.rw 3 ((fillO (List.replicate i 0) m).map eO))]) [] [] 0 (by first|exact (by (conv=>whnf);exact ⟨rfl,rfl,rfl⟩)|(rw[←fillO_nil];exact (by (conv=>whnf);exact ⟨rfl,rfl,rfl⟩))) (by omega) ?_
 intro i p1 ih
 by_cases hi:i<m
 ·have hl:=fillO_len (l:=List.replicate i (0:Rat)) (m:=m) (by simp;omega)
  have hs:=fillO_set (l:=List.replicate i (0:Rat)) (m:=m) (x:=0) (by simp;omega)
  rw[List.length_replicate]at hs
  (repeat' (first|(refine CmpP.go (fun hc => ?_) (fun hc => ?_)<;>first|(exfalso;omega)|(conv=>whnf))|(refine Req.go ?_ ?_;omega;conv=>whnf)|(refine AKM.x ?_;conv=>whnf)|(refine CallP.go (hO) ?_;conv=>whnf)))
  refine StR.nat (enc:=eO) (some 0) rfl (fun e=>by cases e<;>rfl) (by omega) ?_
  (conv=>whnf)
  (repeat' (refine OpP.add ?_ ?_;omega;conv=>whnf))
  rw[hs]
  rw[show List.replicate i (0:Rat)++[0]=List.replicate (i+1) 0 by rw[List.replicate_succ']]
  exact AKM.back [] (by (conv=>whnf);exact ⟨rfl,rfl,rfl⟩) (ih (i+1) (by omega) (by omega))
 obtain rfl:i=m:=by omega
 clear ih
 rw[fillO_full (by simp)]
 (repeat' (first|(refine CmpP.go (fun hc => ?_) (fun hc => ?_)<;>first|(exfalso;omega)|(conv=>whnf))|(refine AKM.x ?_;conv=>whnf)))
 exact ⟨rfl,rfl,by simp,rfl,cl_eQs _⟩
theorem ev_spread (N:LinGLib L) (n:Nt) (src ex:Int) (hv:netB n=true) (hsm:SmallN (tsOf n)) (hnl:n.nodes.length≤4) (hs : -1≤src∧src≤n.s) (hex:InI ex):Ev L 144 [.agg (encN n),.int .i64 src,.int .i64 ex] (.sl false ((spreadQ n src ex).map eQ)):=by
 rw[netB_iff]at hv
 obtain ⟨h1,h2,h3,h4,h5,h6⟩:=hv
 have hwf:0≤n.c.f∧n.c.f≤62:=by unfold WV at h2;omega
 have hP:=ev_rational_Of N.toRatGLib (pw n.c.f) (by have:=pw_pos n.c.f;have:=pw_le62 hwf.2;omega)
 have hO:=ev_rational_Of N.toRatGLib 0 (by omega)
 have hI:=ev_rational_Of N.toRatGLib 1 (by omega)
 refine Ev.x N.network_spread rfl rfl ?_
 (repeat' (first|(refine OpP.add ?_ ?_;omega;conv=>whnf)|(refine AKM.x ?_;conv=>whnf)))
 obtain ⟨m,hm⟩ : ∃ m:Nat,1+n.s=m:=⟨_,(Int.toNat_of_nonneg (by omega)).symm⟩
 rw[hm]
 have hZ:=ev_zerosR N.toSysGLib m (by omega)
 refine CallR.go (enc:=eQ) m hZ (by simp) ?_
 (conv=>whnf)
 have hu1:=pw_pos n.c.f
 have hu2:(pw n.c.f).natAbs≤2^24:=by
  have hf:n.c.f<24:=by unfold WV at h2;omega
  have h9:(2:Nat)^n.c.f.toNat≤2^24:=Nat.pow_le_pow_right (by omega) (by omega)
  rw[pw]
  exact_mod_cast h9
 have hu0:((pw n.c.f:Int):Rat)≠0:=by
  intro e
  have:pw n.c.f=0:=by exact_mod_cast e
  omega
 have hlt:(tsOf n).length=n.nodes.length:=by simp [tsOf]
 have hvals : ∀ j,j≤n.nodes.length→Bs 23400 (exS ((pw n.c.f:Int):Rat) ex 0 (unitL m src) ((tsOf n).take j)):=by
  intro j hj
  have h:=exS_bs (ex:=ex) hu1 hu2 ((tsOf n).take j) 0 (unitL m src) ⟨fun ts h=>hsm.len ts (List.mem_of_mem_take h),fun ts h=>hsm.cf ts (List.mem_of_mem_take h)⟩ (Bs.unit _ _ _)
  have e:0+((tsOf n).take j).length=j:=by rw[List.length_take,hlt];omega
  rw[e]at h
  intro x hx
  refine (h x hx).le ?_
  rcases j with _|_|_|_|_|j
  ·decide
  ·decide
  ·decide
  ·decide
  ·decide
  ·omega
 have hvl : ∀ j,j≤n.nodes.length→(exS ((pw n.c.f:Int):Rat) ex 0 (unitL m src) ((tsOf n).take j)).length=m+j:=by
  intro j hj
  rw[exS_len,unitL_len,List.length_take,hlt];omega
 have hst:=exS_take ((pw n.c.f:Int):Rat) ex (unitL m src) (tsOf n)
 have hfin:spreadQ n src ex=exS ((pw n.c.f:Int):Rat) ex 0 (unitL m src) ((tsOf n).take n.nodes.length):=by
  rw[spreadQ,hm,Int.toNat_natCast,←hlt,List.take_length]
 rw[hfin]
 clear hfin
 (repeat' (first|(refine CmpP.go (fun hc => ?_) (fun hc => ?_)<;>first|(exfalso;omega)|(conv=>whnf))|(refine OpP.shl1 ?_ (fun _ _ => ?_);omega;conv=>whnf)))
 obtain ⟨p,rfl⟩ : ∃ p:Nat,src=p:=⟨_,(Int.toNat_of_nonneg (by omega)).symm⟩
 (repeat' (first|(refine Req.go ?_ ?_;omega;conv=>whnf)|(refine CallP.go (hI) ?_;conv=>whnf)))
 refine StR.at (enc:=eQ) p 1 (by omega) rfl (fun _=>rfl) (by simp;omega) ?_
 (conv=>whnf)
 rw[unit_set]
 rotate_left
 obtain rfl:src = -1:=by omega
 rw[←unitL_neg]
 all_goals
  (repeat' (first|(refine OpP.shl1 ?_ (fun _ _ => ?_);omega;conv=>whnf)|(refine LenP.go ?_;conv=>whnf)|(refine CallP.go (hP) ?_;conv=>whnf)))
  generalize unitL m _=w at *
  refine AKM.loop1 (fun j=>n.nodes.length-j) (fun (j:Nat)=>j≤n.nodes.length) (fun j=>[(34,.int .i64 j),(7,.row 19 0 3 0 (m+j:Nat))]) (fun j=>[(19,19,.rw 3 ((exS ((pw n.c.f:Int):Rat) ex 0 w ((tsOf n).take j)).map eQ))]) [] [] 0 (by (conv=>whnf);exact ⟨rfl,rfl,rfl⟩) (by omega) ?_
  intro j p2 ih
  by_cases hj:j<n.nodes.length
  ·obtain ⟨nd,hnd⟩ : ∃ nd,n.nodes[j]? = some nd:=⟨_,List.getElem?_eq_getElem hj⟩
   have hnd':n.nodes[(j:Int).toNat]? = some nd:=hnd
   have hts:(tsOf n)[j]? = some nd.ts:=by simp [tsOf,hnd]
   have hbv:=hvals j p2
   have hlv:=hvl j p2
   have hstj:=hst j nd.ts hts
   have htm:=nodesB_at h4 hnd
   have hL:nd.ts.length≤5:=hsm.len _ (List.mem_of_getElem? hts)
   have hC:=hsm.cf _ (List.mem_of_getElem? hts)
   generalize hV:exS ((pw n.c.f:Int):Rat) ex 0 w ((tsOf n).take j)=V at *
   (repeat' (first|(refine CmpP.go (fun hc => ?_) (fun hc => ?_)<;>first|(exfalso;omega)|(conv=>whnf))|(refine LenP.go ?_;conv=>whnf)|(refine RdP.at (by assumption) ?_ rfl ?_;omega;conv=>whnf)|(refine AKM.x ?_;conv=>whnf)|(refine CallP.go (hO) ?_;conv=>whnf)))
   refine AKM.loop2 (fun t _=>nd.ts.length-t) (fun (t:Nat) (acc:Rat)=>t≤nd.ts.length∧acc=sumQ V (nd.ts.take t)) (fun t acc=>[(43,.int .i64 t)]) (fun t acc=>[(11,11,.bx (eQ acc))]) [] [] 0 (0:Rat) (by (conv=>whnf);exact ⟨rfl,rfl,rfl⟩) ⟨by omega,rfl⟩ ?_
   intro t acc ⟨p3,p4⟩ jh
   have hsum:Bt 117200 acc:=by
    rw[p4]
    have a1:=hbv.sum (nd.ts.take t) (j:=24) (fun e he=>Bt.ofInt (hC e (List.mem_of_mem_take he)))
    refine a1.le (Nat.le_trans (Nat.mul_le_mul_right _ (show (nd.ts.take t).length≤5 by rw[List.length_take];omega)) (by decide))
   by_cases ht:t<nd.ts.length
   ·obtain ⟨e,he⟩ : ∃ e,nd.ts[t]? = some e:=⟨_,List.getElem?_eq_getElem ht⟩
    have he':nd.ts[(t:Int).toNat]? = some e:=he
    have hme:=List.mem_of_getElem? he
    have hok:=List.all_eq_true.1 htm e hme
    simp only[termB,decide_eq_true_eq]at hok
    have hce:=hC e hme
    obtain ⟨x,hx⟩ : ∃ x,V[e.1.toNat]? = some x:=⟨_,List.getElem?_eq_getElem (by omega)⟩
    have hxd:V.getD e.1.toNat 0=x:=by rw[List.getD_eq_getElem?_getD,hx];rfl
    have hbx:=hbv.at hx
    have hstk:=sumQ_take (vals:=V) he
    rw[hxd]at hstk
    have hSg:=ev_signQ N.toRatGLib hbx (by omega)
    have hE:=ev_rational_Of N.toRatGLib e.2 (by have:(2:Nat)^24=16777216:=rfl;omega)
    have hM:=ev_mulQ N.toRatGLib (Bt.ofInt hce) hbx (by omega) (by omega)
    have hA:=ev_addQ N.toRatGLib hsum ((Bt.ofInt hce).mul hbx) (by omega) (by omega)
    have z1:=sgn_num (x:=x)
    generalize sgn x.num=sx at *
    by_cases q1:e.2=0
    ·(repeat' (first|(refine CmpP.go (fun hc => ?_) (fun hc => ?_)<;>first|(exfalso;omega)|(conv=>whnf))|(refine OpP.add ?_ ?_;omega;conv=>whnf)|(refine RdP.at (by assumption) ?_ rfl ?_;omega;conv=>whnf)|(refine AKM.x ?_;conv=>whnf)))
     exact AKM.back [] (by (conv=>whnf);exact ⟨rfl,rfl,rfl⟩) (jh (t+1) acc (by omega) ⟨by omega,by rw[hstk,q1,show ((0:Int):Rat)=0 from rfl,Rat.zero_mul,Rat.add_zero];exact p4⟩)
    ·by_cases q2:sx=0
     ·have hx0:=z1.1 q2
      (repeat' (first|(refine CmpP.go (fun hc => ?_) (fun hc => ?_)<;>first|(exfalso;omega)|(conv=>whnf))|(refine Req.go ?_ ?_;omega;conv=>whnf)|(refine RdP.at (by assumption) ?_ rfl ?_;omega;conv=>whnf)|(refine LdR.int ?_ (fun _=>rfl) (fun v hv => ?_);omega;conv=>whnf)|(refine AKM.x ?_;conv=>whnf)))
      cases hx.symm.trans hv
      (repeat' (first|(refine CmpP.go (fun hc => ?_) (fun hc => ?_)<;>first|(exfalso;omega)|(conv=>whnf))|(refine OpP.add ?_ ?_;omega;conv=>whnf)|(refine CallP.go (hSg) ?_;conv=>whnf)))
      exact AKM.back [] (by (conv=>whnf);exact ⟨rfl,rfl,rfl⟩) (jh (t+1) acc (by omega) ⟨by omega,by rw[hstk,hx0,Rat.mul_zero,Rat.add_zero];exact p4⟩)
     ·(repeat' (first|(refine CmpP.go (fun hc => ?_) (fun hc => ?_)<;>first|(exfalso;omega)|(conv=>whnf))|(refine Req.go ?_ ?_;omega;conv=>whnf)|(refine RdP.at (by assumption) ?_ rfl ?_;omega;conv=>whnf)|(refine LdR.int ?_ (fun _=>rfl) (fun v hv => ?_);omega;conv=>whnf)|(refine AKM.x ?_;conv=>whnf)))
      cases hx.symm.trans hv
      (repeat' (first|(refine CmpP.go (fun hc => ?_) (fun hc => ?_)<;>first|(exfalso;omega)|(conv=>whnf))|(refine Req.go ?_ ?_;omega;conv=>whnf)|(refine LdR.int ?_ (fun _=>rfl) (fun v hv => ?_);omega;conv=>whnf)|(refine CallP.go (hSg) ?_;conv=>whnf)|(refine CallP.go (hE) ?_;conv=>whnf)))
      cases hx.symm.trans hv
      (repeat' (first|(refine OpP.add ?_ ?_;omega;conv=>whnf)|(refine CallP.go (hM) ?_;conv=>whnf)|(refine CallP.go (hA) ?_;conv=>whnf)))
      exact AKM.back [] (by (conv=>whnf);exact ⟨rfl,rfl,rfl⟩) (jh (t+1) (acc+((e.2:Int):Rat)*x) (by omega) ⟨by omega,by rw[hstk,←p4]⟩)
   ·obtain rfl:t=nd.ts.length:=by omega
    clear jh
    rw[List.take_length]at p4
    have hD:=ev_divQ N.toRatGLib hsum (Bt.ofInt hu2) (by omega) (by omega) hu0
    rw[←p4]at hstj
    by_cases q5:(j:Int)=ex
    ·have hA1:=ev_addQ N.toRatGLib (hsum.divz hu1 hu2) (Bt.ofInt (k:=0) (z:=1) (by decide)) (by omega) (by omega)
     rw[if_pos q5]at hstj
     (repeat' (first|(refine CmpP.go (fun hc => ?_) (fun hc => ?_)<;>first|(exfalso;omega)|(conv=>whnf))|(refine RowP.e1 ?_;conv=>whnf)|(refine AKM.x ?_;conv=>whnf)|(refine CallP.go (hD) ?_;conv=>whnf)|(refine CallP.go (hI) ?_;conv=>whnf)|(refine CallP.go (hA1) ?_;conv=>whnf)))
     refine AppR.one (enc:=eQ) (acc/((pw n.c.f:Int):Rat)+((1:Int):Rat)) rfl hlv.symm rfl (by omega) (by omega) ?_
     rw[show ((1:Int):Rat)=1 from rfl,←hstj,hvl (j+1) (by omega)]
     (repeat' (refine OpP.add ?_ ?_;omega;conv=>whnf))
     exact AKM.back [(19,86)] (by (conv=>whnf);exact ⟨rfl,rfl,rfl⟩) (ih (j+1) (by omega) (by omega))
    ·rw[if_neg q5,Rat.add_zero]at hstj
     (repeat' (first|(refine CmpP.go (fun hc => ?_) (fun hc => ?_)<;>first|(exfalso;omega)|(conv=>whnf))|(refine RowP.e1 ?_;conv=>whnf)|(refine AKM.x ?_;conv=>whnf)|(refine CallP.go (hD) ?_;conv=>whnf)))
     refine AppR.one (enc:=eQ) (acc/((pw n.c.f:Int):Rat)) rfl hlv.symm rfl (by omega) (by omega) ?_
     rw[←hstj,hvl (j+1) (by omega)]
     (repeat' (refine OpP.add ?_ ?_;omega;conv=>whnf))
     exact AKM.back [(19,86)] (by (conv=>whnf);exact ⟨rfl,rfl,rfl⟩) (ih (j+1) (by omega) (by omega))
  ·obtain rfl:j=n.nodes.length:=by omega
   clear ih
   (repeat' (first|(refine CmpP.go (fun hc => ?_) (fun hc => ?_)<;>first|(exfalso;omega)|(conv=>whnf))|(refine AKM.x ?_;conv=>whnf)))
   have hlv:=hvl n.nodes.length p2
   refine SnR.all (enc:=eQ) (fun _=>rfl) rfl (by omega) ?_
   exact FinP.go rfl (by simp only[Clean,true_and];exact cl_eQs _)
end Go.Eng

namespace Go.Eng
open F
attribute [local irreducible] AKM CmpP Req OpP UnP ConvP RdP LdR StR MkR LenP AppR AppN CpyR RowP SnR Bds SlS CallP CalP FinP pw LdM GetM SetM PutM MkM AppM SnM FlP CallR
set_option maxHeartbeats 4000000
variable {L:Lib}
def linQ (n:Nt):SysQ where
 a:=n.next.map fun e=>(List.range n.s.toNat).map fun (j:Nat)=>(spreadQ n ((j:Int)+1) (-1)).getD e.toNat 0
 b:=n.next.map fun e=>(spreadQ n 0 (-1)).getD e.toNat 0
 c:=(List.range n.s.toNat).map fun (j:Nat)=>(spreadQ n ((j:Int)+1) (-1)).getD n.out.toNat 0
 d:=(spreadQ n 0 (-1)).getD n.out.toNat 0
abbrev eC:Option (List Rat)→List AV
 | none=>[.nil]
 | some l=>[.sl false (l.map eQ)]
def fillC (l:List (List Rat)) (m:Nat):List (Option (List Rat)):=l.map some++List.replicate (m-l.length) none
theorem fillC_len {l:List (List Rat)} {m:Nat} (h:l.length≤m):(fillC l m).length=m:=by simp [fillC];omega
theorem fillC_set {l:List (List Rat)} {m:Nat} {x:List Rat} (h:l.length<m):(fillC l m).set l.length (some x)=fillC (l++[x]) m:=by
 unfold fillC
 rw[List.set_append_right _ _ (by simp)]
 obtain ⟨k,hk⟩ : ∃ k,m-l.length=k+1:=⟨m-l.length-1,by omega⟩
 rw[hk,List.length_map,Nat.sub_self,List.replicate_succ,List.set_cons_zero,List.length_append,List.length_singleton,show m-(l.length+1)=k by omega]
 simp
theorem fillM_set {α:Type} (a b:α) {t m:Nat} (_:t≤m) (h:t<m):(List.replicate t a++List.replicate (m-t) b).set t a=List.replicate (t+1) a++List.replicate (m-(t+1)) b:=by
 obtain ⟨k,hk⟩ : ∃ k,m-t=k+1:=⟨m-t-1,by omega⟩
 rw[List.set_append_right _ _ (by simp),hk,List.length_replicate,Nat.sub_self,List.replicate_succ,List.set_cons_zero,show m-(t+1)=k by omega,List.replicate_succ',List.append_assoc]
 rfl
def fz {α:Type} (z:α) (l:List α) (m:Nat):List α:=l++List.replicate (m-l.length) z
theorem fz_len {α:Type} {z:α} {l:List α} {m:Nat} (h:l.length≤m):(fz z l m).length=m:=by simp [fz];omega
theorem fz_len' {α:Type} (z:α) (l:List α) (m:Nat):(fz z l m).length=l.length+(m-l.length):=by simp [fz]
theorem fz_set {α:Type} {z x:α} {l:List α} {m:Nat} (h:l.length<m):(fz z l m).set l.length x=fz z (l++[x]) m:=by
 unfold fz
 obtain ⟨k,hk⟩ : ∃ k,m-l.length=k+1:=⟨m-l.length-1,by omega⟩
 rw[List.set_append_right _ _ (by simp),hk,Nat.sub_self,List.replicate_succ,List.set_cons_zero,List.length_append,List.length_singleton,show m-(l.length+1)=k by omega,List.append_assoc]
 rfl
theorem fz_at {α:Type} {z:α} {l:List α} {m:Nat} (h:l.length<m):(fz z l m)[l.length]? = some z:=by
 unfold fz
 rw[List.getElem?_append_right (by omega),Nat.sub_self,List.getElem?_replicate,if_pos (by omega)]
theorem fz_full {α:Type} {z:α} {l:List α} {m:Nat} (h:l.length=m):fz z l m=l:=by simp [fz,h]
theorem fillC_full (l:List (List Rat)):(fillC l l.length).map eC=l.map fun c=>[AV.sl false (c.map eQ)]:=by
 simp [fillC,Function.comp_def]
def colsQ (n:Nt) (i:Nat):List (List Rat):=(List.range i).map fun (j:Nat)=>spreadQ n (j:Int) (-1)
theorem colsQ_succ (n:Nt) (i:Nat):colsQ n (i+1)=colsQ n i++[spreadQ n (i:Int) (-1)]:=by simp [colsQ,List.range_succ]
theorem colsQ_len (n:Nt) (i:Nat):(colsQ n i).length=i:=by simp [colsQ]
theorem list_set_self {α:Type} {l:List α} {i:Nat} {x:α} (h:l[i]? = some x):l.set i x=l:=by
 refine List.ext_getElem? fun j => ?_
 rw[List.getElem?_set]
 split
 ·rename_i e;subst e
  rw[h];split
  ·rfl
  ·rename_i h2;rw[List.getElem?_eq_none (by omega)]at h;cases h
 ·rfl
theorem take_snocA {α:Type} {l:List α} {i:Nat} {x:α} (h:l[i]? = some x):l.take (i+1)=l.take i++[x]:=by
 rw[List.take_add_one,h];rfl
theorem spreadQ_len (n:Nt) (src ex:Int):(spreadQ n src ex).length=(1+n.s).toNat+n.nodes.length:=by
 simp only[spreadQ,exS_len,unitL_len,tsOf,List.length_map]
theorem spreadQ_bs (n:Nt) (src ex:Int) (h2:WV n.c) (hsm:SmallN (tsOf n)) (hnl:n.nodes.length≤4):Bs 23400 (spreadQ n src ex):=by
 have hlt:(tsOf n).length=n.nodes.length:=by simp [tsOf]
 have hu1:=pw_pos n.c.f
 have hu2:(pw n.c.f).natAbs≤2^24:=by
  have hf:n.c.f<24:=by unfold WV at h2;omega
  have h9:(2:Nat)^n.c.f.toNat≤2^24:=Nat.pow_le_pow_right (by omega) (by omega)
  rw[pw]
  exact_mod_cast h9
 have h:=exS_bs (ex:=ex) hu1 hu2 (tsOf n) 0 (unitL (1+n.s).toNat src) hsm (Bs.unit _ _ _)
 rw[hlt,Nat.zero_add]at h
 intro x hx
 refine (h x hx).le ?_
 generalize n.nodes.length=j at hnl
 rcases j with _|_|_|_|_|j
 ·decide
 ·decide
 ·decide
 ·decide
 ·decide
 ·omega
theorem hcolsat (n:Nt) (t:Nat) (j:Int) (h:0≤j∧j≤t):(colsQ n (t+1))[j.toNat]? = some (spreadQ n j (-1)):=by
 unfold colsQ
 rw[List.getElem?_map,List.getElem?_range (by omega),Option.map_some,Int.toNat_of_nonneg h.1]
theorem ev_Linear (I:FixedLib L) (N:LinGLib L) (n:Nt) (hv:netB n=true) (hsm:SmallN (tsOf n)) (hnl:n.nodes.length≤4):Ev L 146 [.agg (encN n)] (.tup [.agg (eS (linQ n)),.int .i64 0]):=by
 have hV:=ev_network_Valid n I N.toNetLib
 rw[hv]at hV
 have hSp:=fun (j:Int) (h:0≤j∧j≤n.s)=>ev_spread N n j (-1) hv hsm hnl (by omega) (by unfold InI;omega)
 have hO:=ev_rational_Of N.toRatGLib 0 (by omega)
 rw[netB_iff]at hv
 obtain ⟨h1,h2,h3,h4,h5,h6⟩:=hv
 have hnx : ∀ e∈n.next,0≤e∧e≤n.s+n.nodes.length:=fun e he=>by simpa using List.all_eq_true.1 h5 e he
 refine Ev.x N.network_Linear rfl rfl ?_
 (repeat' (first|(refine OpP.add ?_ ?_;omega;conv=>whnf)|(refine AKM.x ?_;conv=>whnf)|(refine CallP.go (hV) ?_;conv=>whnf)))
 obtain ⟨m,hm⟩ : ∃ m:Nat,n.s=m:=⟨n.s.toNat,(Int.toNat_of_nonneg (by omega)).symm⟩
 rw[hm]
 unfold MkM
 refine ⟨⟨by omega,by omega,by simp only[roomMax];omega,by omega⟩,?_⟩
 rw[show ((m:Int)+1).toNat=m+1 by omega]
 (conv=>whnf)
 skip
 refine AKM.mxN 146018 146018 (m+1) rfl ?_
 skip
 rw[show List.replicate (m+1) [AV.nil]=(fillC (colsQ n 0) (m+1)).map eC by simp [fillC,colsQ]]
 refine AKM.loop1 (fun i=>m+1-i) (fun (i:Nat)=>i≤m+1) (fun i=>[(21,.int .i64 i)]) (fun i=>[(146018,146018,.rw 1 ((fillC (colsQ n i) (m+1)).map eC))]) [] [] 0 (by (conv=>whnf);exact ⟨rfl,rfl,rfl⟩) (by omega) ?_
 intro i p1 ih
 by_cases hi:i<m+1
 ·have hl:=fillC_len (l:=colsQ n i) (m:=m+1) (by rw[colsQ_len];omega)
  have hst:=fillC_set (l:=colsQ n i) (m:=m+1) (x:=spreadQ n (i:Int) (-1)) (by rw[colsQ_len];omega)
  rw[colsQ_len,←colsQ_succ]at hst
  have hS:=hSp i (by omega)
  unfold encN at hS
  rw[hm]at hS
  (repeat' (first|(refine CmpP.go (fun hc => ?_) (fun hc => ?_)<;>first|(exfalso;omega)|(conv=>whnf))|(refine Req.go ?_ ?_;omega;conv=>whnf)|(refine AKM.x ?_;conv=>whnf)|(refine CallP.go (hS) ?_;conv=>whnf)))
  refine StR.nat (enc:=eC) (some (spreadQ n (i:Int) (-1))) rfl (fun e=>by cases e<;>rfl) (by omega) ?_
  (conv=>whnf)
  (repeat' (refine OpP.add ?_ ?_;omega;conv=>whnf))
  rw[hst]
  exact AKM.back [] (by (conv=>whnf);exact ⟨rfl,rfl,rfl⟩) (ih (i+1) (by omega) (by omega))
 ·obtain rfl:i=m+1:=by omega
  clear ih
  (repeat' (first|(refine CmpP.go (fun hc => ?_) (fun hc => ?_)<;>first|(exfalso;omega)|(conv=>whnf))|(refine AKM.x ?_;conv=>whnf)))
  refine CalP.walkC 1000 N.network_zero rfl rfl ?_
  (repeat' (refine AKM.x ?_;conv=>whnf))
  unfold MkM
  refine ⟨⟨by omega,by omega,by simp only[roomMax];omega,by omega⟩,?_⟩
  rw[Int.toNat_natCast]
  (conv=>whnf)
  have hZ:=ev_zerosR N.toSysGLib m (by omega)
  refine CallR.go (enc:=eQ) m hZ (by simp) ?_
  (conv=>whnf)
  refine CallR.go (enc:=eQ) m hZ (by simp) ?_
  (conv=>whnf)
  (repeat' (refine CallP.go (hO) ?_;conv=>whnf))
  refine AKM.loop1 (fun t=>m-t) (fun (t:Nat)=>t≤m) (fun t=>[(16,.int .i64 t)]) (fun t=>[(145006,145006,.mx (List.replicate t (some (3,(List.replicate m (0:Rat)).map eQ))++List.replicate (m-t) none))]) [] [] 0 (by (conv=>whnf);exact ⟨rfl,rfl,rfl⟩) (by omega) ?_
  intro t p4 th
  by_cases ht:t<m
  ·(repeat' (first|(refine CmpP.go (fun hc => ?_) (fun hc => ?_)<;>first|(exfalso;omega)|(conv=>whnf))|(refine AKM.x ?_;conv=>whnf)))
   refine CallR.go (enc:=eQ) m hZ (by simp) ?_
   (conv=>whnf)
   (repeat' (first|(refine Req.go ?_ ?_;omega;conv=>whnf)|fail))
   unfold Req SetM
   refine ⟨by simp,by simp;omega,?_⟩
   (conv=>whnf)
   rw[show 0+((t:Int)).toNat=t by omega,fillM_set _ _ p4 ht]
   (repeat' (refine OpP.add ?_ ?_;omega;conv=>whnf))
   exact AKM.back [] (by (conv=>whnf);exact ⟨rfl,rfl,rfl⟩) (th (t+1) (by omega) (by omega))
  obtain rfl:t=m:=by omega
  clear th
  have hcs:=hcolsat n t
  rw[show List.replicate t (some (3,List.map eQ (List.replicate t 0)))++List.replicate (t-t) none=mxR 3 eQ (fz (List.replicate t 0) [] t) by simp [mxR,fz],show List.replicate t (0:Rat)=fz 0 [] t by simp [fz],show (fillC (colsQ n (t+1)) (t+1)).map eC=(colsQ n (t+1)).map fun c=>[AV.sl false (c.map eQ)] by rw[←fillC_full,colsQ_len]]
  (repeat' (first|(refine CmpP.go (fun hc => ?_) (fun hc => ?_)<;>first|(exfalso;omega)|(conv=>whnf))|(refine AKM.x ?_;conv=>whnf)))
  refine ⟨rfl,?_⟩
  (conv=>whnf)
  (repeat' (refine LenP.go ?_;conv=>whnf))
  have hsn:n.s.toNat=t:=by omega
  have hnl2:n.next.length=t:=by omega
  have hcql:=colsQ_len n (t+1)
  refine AKM.loop1 (fun i=>n.next.length-i) (fun (i:Nat)=>i≤n.next.length) (fun i=>[(37,.int .i64 i)]) (fun i=>[(145006,145006,.mx (mxR 3 eQ (fz (List.replicate t 0) ((linQ n).a.take i) t))),(145008,145008,.rw 3 ((fz 0 ((linQ n).b.take i) t).map eQ))]) [] [] 0 (by (conv=>whnf);exact ⟨rfl,rfl,rfl⟩) (by omega) ?_
  intro i q1 ih
  by_cases hi:i<n.next.length
  ·obtain ⟨e,he⟩ : ∃ e,n.next[i]? = some e:=⟨_,List.getElem?_eq_getElem hi⟩
   have hx':n.next[(i:Int).toNat]? = some e:=he
   have hrow:(linQ n).a[i]? = some ((List.range t).map fun (j:Nat)=>(spreadQ n ((j:Int)+1) (-1)).getD e.toNat 0):=by
    rw[←hsn];simp only[linQ,List.getElem?_map,he,Option.map_some]
   have hbe:(linQ n).b[i]? = some ((spreadQ n 0 (-1)).getD e.toNat 0):=by
    simp only[linQ,List.getElem?_map,he,Option.map_some]
   have hal:(linQ n).a.length=t:=by simp [linQ,hnl2]
   have hbl:(linQ n).b.length=t:=by simp [linQ,hnl2]
   have htk:((linQ n).a.take i).length=i:=by rw[List.length_take];omega
   have htb:((linQ n).b.take i).length=i:=by rw[List.length_take];omega
   have hA0:fz (List.replicate t 0) ((linQ n).a.take i) t=(fz (List.replicate t 0) ((linQ n).a.take i) t).set i (fz 0 [] t):=by
    have:=fz_at (z:=List.replicate t (0:Rat)) (l:=(linQ n).a.take i) (m:=t) (by omega)
    rw[htk]at this
    rw[show fz (0:Rat) [] t=List.replicate t 0 by simp [fz]]
    exact (list_set_self this).symm
   have hAs:=fz_set (z:=List.replicate t (0:Rat)) (l:=(linQ n).a.take i) (m:=t) (x:=(List.range t).map fun (j:Nat)=>(spreadQ n ((j:Int)+1) (-1)).getD e.toNat 0) (by omega)
   have hBs:=fz_set (z:=(0:Rat)) (l:=(linQ n).b.take i) (m:=t) (x:=(spreadQ n 0 (-1)).getD e.toNat 0) (by omega)
   rw[htk,←take_snocA hrow]at hAs
   rw[htb,←take_snocA hbe]at hBs
   have hAl:=fz_len (z:=List.replicate t (0:Rat)) (l:=(linQ n).a.take i) (m:=t) (by omega)
   have hBl:=fz_len (z:=(0:Rat)) (l:=(linQ n).b.take i) (m:=t) (by omega)
   have hen:=hnx e (List.mem_of_getElem? he)
   generalize fz (List.replicate t 0) ((linQ n).a.take i) t=A0 at *
   generalize fz (0:Rat) ((linQ n).b.take i) t=B0 at *
   have hA1:A0=A0.set i (fz 0 ((List.range 0).map fun (j:Nat)=>(spreadQ n ((j:Int)+1) (-1)).getD e.toNat 0) t):=hA0
   (repeat' (first|(refine CmpP.go (fun hc => ?_) (fun hc => ?_)<;>first|(exfalso;omega)|(conv=>whnf))|(refine RdP.at (by assumption) ?_ rfl ?_;omega;conv=>whnf)|(refine AKM.x ?_;conv=>whnf)))
   refine AKM.loop1 (fun j=>t-j) (fun (j:Nat)=>j≤t) (fun j=>[(44,.int .i64 j)]) (fun j=>[(145006,145006,.mx (mxR 3 eQ (A0.set i (fz 0 ((List.range j).map fun (j:Nat)=>(spreadQ n ((j:Int)+1) (-1)).getD e.toNat 0) t))))]) [] [] 0 (by first|exact (by (conv=>whnf);exact ⟨rfl,rfl,rfl⟩)|(rw[←hA1];exact (by (conv=>whnf);exact ⟨rfl,rfl,rfl⟩))) (by omega) ?_
   intro j q2 jh
   have hcl:((List.range j).map fun (j:Nat)=>(spreadQ n ((j:Int)+1) (-1)).getD e.toNat 0).length=j:=by simp
   by_cases hj:j<t
   ·have hcol:=hcs ((j:Int)+1) (by omega)
    have hxl:=spreadQ_len n ((j:Int)+1) (-1)
    have hxb:=spreadQ_bs n ((j:Int)+1) (-1) h2 hsm hnl
    obtain ⟨x,hx⟩ : ∃ x,(spreadQ n ((j:Int)+1) (-1))[e.toNat]? = some x:=⟨_,List.getElem?_eq_getElem (by omega)⟩
    have hxd:(spreadQ n ((j:Int)+1) (-1)).getD e.toNat 0=x:=by rw[List.getD_eq_getElem?_getD,hx];rfl
    have hT:=ev_trimQ N.toRatGLib (hxb.at hx) (by omega)
    have hcs2:=fz_set (z:=(0:Rat)) (l:=(List.range j).map fun (j:Nat)=>(spreadQ n ((j:Int)+1) (-1)).getD e.toNat 0) (m:=t) (x:=x) (by omega)
    have hcl2:=fz_len (z:=(0:Rat)) (l:=(List.range j).map fun (j:Nat)=>(spreadQ n ((j:Int)+1) (-1)).getD e.toNat 0) (m:=t) (by omega)
    rw[hcl,show ((List.range j).map fun (j:Nat)=>(spreadQ n ((j:Int)+1) (-1)).getD e.toNat 0)++[x]=(List.range (j+1)).map fun (j:Nat)=>(spreadQ n ((j:Int)+1) (-1)).getD e.toNat 0 by rw[List.range_succ,List.map_append,List.map_singleton,hxd]]at hcs2
    have hrw:(A0.set i (fz 0 ((List.range j).map fun (j:Nat)=>(spreadQ n ((j:Int)+1) (-1)).getD e.toNat 0) t))[i]? = some (fz 0 ((List.range j).map fun (j:Nat)=>(spreadQ n ((j:Int)+1) (-1)).getD e.toNat 0) t):=by
     rw[List.getElem?_set,if_pos rfl,if_pos (by omega)]
    have hsl:(A0.set i (fz 0 ((List.range j).map fun (j:Nat)=>(spreadQ n ((j:Int)+1) (-1)).getD e.toNat 0) t)).length=t:=by rw[List.length_set];omega
    (repeat' (first|(refine CmpP.go (fun hc => ?_) (fun hc => ?_)<;>first|(exfalso;omega)|(conv=>whnf))|(refine Req.go ?_ ?_;omega;conv=>whnf)|(refine OpP.add ?_ ?_;omega;conv=>whnf)|(refine LdR.int ?_ (fun _=>rfl) (fun v hv => ?_);omega;conv=>whnf)|(refine LdM.nat ?_ (fun r hr => ?_);omega;conv=>whnf)|(refine AKM.x ?_;conv=>whnf)))
    cases hrw.symm.trans hr
    cases hcol.symm.trans hv
    (repeat' (first|(refine RdP.at (by assumption) ?_ rfl ?_;omega;conv=>whnf)|(refine CallP.go (hT) ?_;conv=>whnf)))
    refine Req.go (by rw[List.length_map];omega) ?_
    (conv=>whnf)
    (repeat' (refine GetM.ati (by assumption) ?_;conv=>whnf))
    refine StR.nat (enc:=eQ) x rfl (fun _=>rfl) (by omega) ?_
    (conv=>whnf)
    rw[hcs2]
    refine PutM.nat (by simp only[fz_len' , hcl,List.length_map,List.length_range];omega) ?_
    rw[List.set_set]
    (conv=>whnf)
    (repeat' (refine OpP.add ?_ ?_;omega;conv=>whnf))
    exact AKM.back [] (by (conv=>whnf);exact ⟨rfl,rfl,rfl⟩) (jh (j+1) (by omega) (by omega))
   ·obtain rfl:j=t:=by omega
    clear jh
    rw[fz_full hcl,hAs]
    have hcol:=hcs 0 (by omega)
    have hxl:=spreadQ_len n 0 (-1)
    have hxb:=spreadQ_bs n 0 (-1) h2 hsm hnl
    obtain ⟨x,hx⟩ : ∃ x,(spreadQ n 0 (-1))[e.toNat]? = some x:=⟨_,List.getElem?_eq_getElem (by omega)⟩
    have hxd:(spreadQ n 0 (-1)).getD e.toNat 0=x:=by rw[List.getD_eq_getElem?_getD,hx];rfl
    rw[hxd]at hBs
    have hT:=ev_trimQ N.toRatGLib (hxb.at hx) (by omega)
    (repeat' (first|(refine CmpP.go (fun hc => ?_) (fun hc => ?_)<;>first|(exfalso;omega)|(conv=>whnf))|(refine Req.go ?_ ?_;omega;conv=>whnf)|(refine LdR.int ?_ (fun _=>rfl) (fun v hv => ?_);omega;conv=>whnf)|(refine AKM.x ?_;conv=>whnf)))
    cases hcol.symm.trans hv
    (repeat' (first|(refine Req.go ?_ ?_;omega;conv=>whnf)|(refine RdP.at (by assumption) ?_ rfl ?_;omega;conv=>whnf)|(refine CallP.go (hT) ?_;conv=>whnf)))
    refine StR.nat (enc:=eQ) x rfl (fun _=>rfl) (by omega) ?_
    (conv=>whnf)
    rw[hBs]
    (repeat' (refine OpP.add ?_ ?_;omega;conv=>whnf))
    exact AKM.back [] (by (conv=>whnf);exact ⟨rfl,rfl,rfl⟩) (ih (i+1) (by omega) (by omega))
  ·obtain rfl:i=n.next.length:=by omega
   clear ih
   have hal:(linQ n).a.length=t:=by simp [linQ,hnl2]
   have hbl:(linQ n).b.length=t:=by simp [linQ,hnl2]
   rw[List.take_of_length_le (show (linQ n).a.length≤n.next.length by omega),List.take_of_length_le (show (linQ n).b.length≤n.next.length by omega),fz_full hal,fz_full hbl]
   (repeat' (first|(refine CmpP.go (fun hc => ?_) (fun hc => ?_)<;>first|(exfalso;omega)|(conv=>whnf))|(refine AKM.x ?_;conv=>whnf)))
   refine AKM.loop1 (fun j=>t-j) (fun (j:Nat)=>j≤t) (fun j=>[(78,.int .i64 j)]) (fun j=>[(145010,145010,.rw 3 ((fz 0 ((List.range j).map fun (j:Nat)=>(spreadQ n ((j:Int)+1) (-1)).getD n.out.toNat 0) t).map eQ))]) [] [] 0 (by (conv=>whnf);exact ⟨rfl,rfl,rfl⟩) (by omega) ?_
   intro j q2 jh
   have hcl:((List.range j).map fun (j:Nat)=>(spreadQ n ((j:Int)+1) (-1)).getD n.out.toNat 0).length=j:=by simp
   by_cases hj:j<t
   ·have hcol:=hcs ((j:Int)+1) (by omega)
    have hxl:=spreadQ_len n ((j:Int)+1) (-1)
    have hxb:=spreadQ_bs n ((j:Int)+1) (-1) h2 hsm hnl
    obtain ⟨x,hx⟩ : ∃ x,(spreadQ n ((j:Int)+1) (-1))[n.out.toNat]? = some x:=⟨_,List.getElem?_eq_getElem (by omega)⟩
    have hxd:(spreadQ n ((j:Int)+1) (-1)).getD n.out.toNat 0=x:=by rw[List.getD_eq_getElem?_getD,hx];rfl
    have hT:=ev_trimQ N.toRatGLib (hxb.at hx) (by omega)
    have hcs2:=fz_set (z:=(0:Rat)) (l:=(List.range j).map fun (j:Nat)=>(spreadQ n ((j:Int)+1) (-1)).getD n.out.toNat 0) (m:=t) (x:=x) (by omega)
    have hcl2:=fz_len (z:=(0:Rat)) (l:=(List.range j).map fun (j:Nat)=>(spreadQ n ((j:Int)+1) (-1)).getD n.out.toNat 0) (m:=t) (by omega)
    rw[hcl,show ((List.range j).map fun (j:Nat)=>(spreadQ n ((j:Int)+1) (-1)).getD n.out.toNat 0)++[x]=(List.range (j+1)).map fun (j:Nat)=>(spreadQ n ((j:Int)+1) (-1)).getD n.out.toNat 0 by rw[List.range_succ,List.map_append,List.map_singleton,hxd]]at hcs2
    (repeat' (first|(refine CmpP.go (fun hc => ?_) (fun hc => ?_)<;>first|(exfalso;omega)|(conv=>whnf))|(refine Req.go ?_ ?_;omega;conv=>whnf)|(refine OpP.add ?_ ?_;omega;conv=>whnf)|(refine LdR.int ?_ (fun _=>rfl) (fun v hv => ?_);omega;conv=>whnf)|(refine AKM.x ?_;conv=>whnf)))
    cases hcol.symm.trans hv
    (repeat' (first|(refine Req.go ?_ ?_;omega;conv=>whnf)|(refine RdP.at (by assumption) ?_ rfl ?_;omega;conv=>whnf)|(refine CallP.go (hT) ?_;conv=>whnf)))
    refine StR.nat (enc:=eQ) x rfl (fun _=>rfl) (by omega) ?_
    (conv=>whnf)
    rw[hcs2]
    (repeat' (refine OpP.add ?_ ?_;omega;conv=>whnf))
    exact AKM.back [] (by (conv=>whnf);exact ⟨rfl,rfl,rfl⟩) (jh (j+1) (by omega) (by omega))
   ·obtain rfl:j=t:=by omega
    clear jh
    rw[fz_full hcl]
    have hcol:=hcs 0 (by omega)
    have hxl:=spreadQ_len n 0 (-1)
    have hxb:=spreadQ_bs n 0 (-1) h2 hsm hnl
    obtain ⟨x,hx⟩ : ∃ x,(spreadQ n 0 (-1))[n.out.toNat]? = some x:=⟨_,List.getElem?_eq_getElem (by omega)⟩
    have hxd:(spreadQ n 0 (-1)).getD n.out.toNat 0=x:=by rw[List.getD_eq_getElem?_getD,hx];rfl
    have hT:=ev_trimQ N.toRatGLib (hxb.at hx) (by omega)
    have hd:(linQ n).d=x:=hxd
    have hcc:(linQ n).c=(List.range j).map fun (j:Nat)=>(spreadQ n ((j:Int)+1) (-1)).getD n.out.toNat 0:=by rw[linQ,hsn]
    rw[←hcc]
    (repeat' (first|(refine CmpP.go (fun hc => ?_) (fun hc => ?_)<;>first|(exfalso;omega)|(conv=>whnf))|(refine Req.go ?_ ?_;omega;conv=>whnf)|(refine LdR.int ?_ (fun _=>rfl) (fun v hv => ?_);omega;conv=>whnf)|(refine AKM.x ?_;conv=>whnf)))
    cases hcol.symm.trans hv
    (repeat' (first|(refine RdP.at (by assumption) ?_ rfl ?_;omega;conv=>whnf)|(refine CallP.go (hT) ?_;conv=>whnf)))
    have hcn:(linQ n).c.length=j:=by rw[hcc,hcl]
    refine SnM.all (fun _=>rfl) rfl hal.symm ?_
    (conv=>whnf)
    refine SnR.all (enc:=eQ) (fun _=>rfl) rfl hbl.symm ?_
    (conv=>whnf)
    refine SnR.all (enc:=eQ) (fun _=>rfl) rfl hcn.symm ?_
    (conv=>whnf)
    refine FinP.go (by rw[←hd];rfl) ?_
    simp only[Clean,CleanL,and_true]
    exact cl_eS (linQ n)
end Go.Eng

namespace Go.Eng
variable {L:Lib}
def mdelL:List Nat→Mem→Mem
 | [],M=>M
 | j::r,M=>mdelL r (mdel j M)
theorem AKM.fgt1 {kk:List It} {tm:Tm} {M:Mem} {Q:Tm→Mem→Prop} (j:Nat) (h:AKM L kk tm (mdel j M) Q):AKM L kk tm M Q:=by
 intro σ st hr
 exact h σ st ⟨hr.tm,⟨fun k s c e=>hr.sat.site k s c (mget_mdel e).2,fun k t c e=>hr.sat.blk k t c (mref_mdel e).2,fun k t c e=>hr.sat.old k t c (mref_mdel e).2,fun k t k' t' c c' e e'=>hr.sat.inj k t k' t' c c' (mref_mdel e).2 (mref_mdel e').2⟩⟩
theorem AKM.fgt {kk:List It} {tm:Tm} {Q:Tm→Mem→Prop} : ∀ (ks:List Nat) {M:Mem},AKM L kk tm (mdelL ks M) Q→AKM L kk tm M Q
 | [],_,h=>h
 | j::r,_,h=>AKM.fgt1 j (AKM.fgt r h)
end Go.Eng
