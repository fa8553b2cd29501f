/-
  Natural numbers (layer 1): sums, differences, products.
-/
import Derived.Test.YtiadddpcmkfpjaaGreatB7
import Derived.Test.YtiadddpcmkfpjaaGreatB4
set_option linter.unusedSimpArgs false
set_option linter.unusedVariables false
set_option linter.unnecessarySimpa false
namespace Go.Eng
open F
attribute [local irreducible] AKM CmpP Req OpP UnP ConvP RdP LdR StR MkR LenP AppR AppN CpyR RowP SnR Bds SlS CallP CalP FinP pw LdM GetM SetM PutM MkM AppM SnM FlP CallR
set_option maxHeartbeats 1000000
variable {L:Lib}
theorem val_take_end {y:List Nat} {i:Nat} (h:y.length≤i):val (y.take (i+1))=val (y.take i):=by
 rw[val_take_all h,val_take_all (by omega)]
theorem ev_nat_Add (N:NatGLib L) (a b:List Nat) (q1 q2:Bool) (hA:Dig a) (hB:Dig b) (la:a.length≤1099511627775) (lb:b.length≤1099511627775):Ev L 68 [.sl q1 (a.map e32),.sl q2 (b.map e32)] (.sl false ((dg (val a+val b)).map e32)):=by
 have l1:=dg_len_val hA
 have l2:=dg_len_val hB
 have d1:=dig_dg (val a)
 have d2:=dig_dg (val b)
 have v1:=val_dg (val a)
 have v2:=val_dg (val b)
 refine Ev.x N.nat_Add rfl rfl ?_
 (repeat' (first|(refine CmpP.go (fun hc => ?_) (fun hc => ?_)<;>first|(exfalso;omega)|(conv=>whnf))|(refine OpP.add ?_ ?_;omega;conv=>whnf)|(refine LenP.go ?_;conv=>whnf)|(refine AKM.x ?_;conv=>whnf)|(refine CalP.ro (ro_cut N a _ hA (by omega)) ?_;conv=>whnf)|(refine CalP.ro (ro_cut N b _ hB (by omega)) ?_;conv=>whnf)))
 ·generalize dg (val a)=y at *
  generalize dg (val b)=x at *
  rw[←v1,←v2,Nat.add_comm (val y)]
  have hlen:y.length≤x.length:=by omega
  have hxl:x.length≤1099511627775:=by omega
  clear v1 v2 hA hB la lb
  refine MkR.go (enc:=e32) 0 (x.length+1) rfl (by omega) (by omega) ?_
  (conv=>whnf)
  (repeat' (refine LenP.go ?_;conv=>whnf))
  refine AKM.loop3 (fun i _ _=>x.length-i) (fun (i:Nat) (o:List Nat) (c:Nat)=>i≤x.length∧o.length=x.length+1∧Dig o∧c≤1∧val (o.take i)+4294967296^i*c=val (x.take i)+val (y.take i)) (fun i o c=>[(8,.int .u64 (c:Int)),(29,.int .i64 i)]) (fun i o c=>[(26,26,.rw 1 (o.map e32))]) [] [] 0 (List.replicate (x.length+1) 0) 0 (by (conv=>whnf);exact ⟨rfl,rfl,rfl⟩) ⟨by omega,by simp,dig_zeros _,by omega,by simp [val]⟩ ?_
  intro i o c ⟨p1,p2,p3,p4,p5⟩ ih
  by_cases hi:i<x.length
  ·(repeat' (first|(refine CmpP.go (fun hc => ?_) (fun hc => ?_)<;>first|(exfalso;omega)|(conv=>whnf))|(refine Req.go ?_ ?_;omega;conv=>whnf)|(refine OpP.nadd ?_ ?_;omega;conv=>whnf)|(refine ConvP.u64 ?_ ?_;omega;conv=>whnf)|(refine ConvP.n32 ?_;conv=>whnf)|(refine LenP.go ?_;conv=>whnf)|(refine RdP.dig (by assumption) ?_ (fun e he hb => ?_);omega;conv=>whnf)|(refine AKM.x ?_;conv=>whnf)))
   ·rename_i d hd _
    refine StR.dig (by omega) ?_
    (conv=>whnf)
    (repeat' (first|(refine OpP.add ?_ ?_;omega;conv=>whnf)|(refine OpP.nshr32 ?_;conv=>whnf)))
    refine AKM.back [] (by (conv=>whnf);exact ⟨rfl,rfl,rfl⟩) (ih (i+1) _ _ (by omega) ⟨by omega,by simpa using p2,p3.set _ (by omega),by omega,?_⟩)
    have h1:=val_take_succ hd
    have h2:=val_take_succ he
    have h3:=carry_step (val (o.take i)) (4294967296^i) (d+c+e)
    have h4:=val_set_take (v:=(d+c+e)%4294967296) (show i<o.length by omega)
    rw[h4,h1,h2,Nat.pow_succ]
    generalize 4294967296^i=p at *
    rw[h3,Nat.mul_add,Nat.mul_add]
    omega
   ·refine StR.dig (by omega) ?_
    (conv=>whnf)
    (repeat' (first|(refine OpP.add ?_ ?_;omega;conv=>whnf)|(refine OpP.nshr32 ?_;conv=>whnf)))
    refine AKM.back [] (by (conv=>whnf);exact ⟨rfl,rfl,rfl⟩) (ih (i+1) _ _ (by omega) ⟨by omega,by simpa using p2,p3.set _ (by omega),by omega,?_⟩)
    have h1:=val_take_succ he
    have h2:=val_take_end (y:=y) (i:=i) (by omega)
    have h3:=carry_step (val (o.take i)) (4294967296^i) (e+c)
    have h4:=val_set_take (v:=(e+c)%4294967296) (show i<o.length by omega)
    rw[h4,h1,h2,Nat.pow_succ]
    generalize 4294967296^i=p at *
    rw[h3,Nat.mul_add]
    omega
  ·obtain rfl:i=x.length:=by omega
   clear ih
   (repeat' (first|(refine CmpP.go (fun hc => ?_) (fun hc => ?_)<;>first|(exfalso;omega)|(conv=>whnf))|(refine Req.go ?_ ?_;omega;conv=>whnf)|(refine ConvP.n32i ?_ ?_;omega;conv=>whnf)|(refine LenP.go ?_;conv=>whnf)|(refine AKM.x ?_;conv=>whnf)))
   refine StR.dig (by omega) ?_
   (conv=>whnf)
   skip
   have hV:val (o.set x.length c)=val x+val y:=by
    have h4:=val_set_take (v:=c) (show x.length<o.length by omega)
    rw[List.take_of_length_le (by simp;omega)]at h4
    rw[h4,p5,val_take_all (Nat.le_refl _),val_take_all hlen]
   have hD:Dig (o.set x.length c):=p3.set _ (by omega)
   have hL:(o.set x.length c).length=x.length+1:=by simpa using p2
   clear p3 p4 p5 p2
   generalize o.set x.length c=O at *
   rw[←hL]
   refine CalP.walk 1000 N.nat_cut rfl rfl ?_
   (repeat' (refine AKM.x ?_;conv=>whnf))
   refine AKM.loop1 (fun n=>n) (fun (n:Nat)=>n≤(O).length ∧ ∀ i,n≤i→i<(O).length→(O)[i]? = some 0) (fun n=>[(3,.int .i64 n)]) (fun _=>[]) [] [] (O).length (by first|exact (by (conv=>whnf);exact ⟨rfl,rfl,rfl⟩)|(simp only[List.length_set,List.length_replicate];exact (by (conv=>whnf);exact ⟨rfl,rfl,rfl⟩))) ⟨Nat.le_refl _,fun i h1 h2=>by omega⟩ ?_
   intro n ⟨p1,p2⟩ ih
   rcases n with _|n
   ·(repeat' (first|(refine CmpP.go (fun hc => ?_) (fun hc => ?_)<;>first|(exfalso;omega)|(conv=>whnf))|(refine AKM.x ?_;conv=>whnf)))
    refine Bds.up 0 (by omega) (by omega) ?_
    (conv=>whnf)
    refine ⟨rfl,_,rfl,?_⟩
    (conv=>whnf)
    have hm:=p1
    have hct:=cut_found (l:=O) (by assumption) p1 p2 (Or.inl rfl)
    clear ih p1 p2
    (refine SnR.part (enc:=e32) (fun _=>rfl) (by omega) ?_;(conv=>whnf);exact FinP.go (by rw[←hV,←hct];rfl) (by simp only[Clean,true_and];exact cl_dig _))
   ·have e1:((n+1:Nat):Int)-1=n:=by omega
    (repeat' (first|(refine CmpP.go (fun hc => ?_) (fun hc => ?_)<;>first|(exfalso;omega)|(conv=>whnf))|(refine Req.go ?_ ?_;omega;conv=>whnf)|(refine OpP.sub ?_ ?_;omega;conv=>whnf)|(refine LdR.digi (by assumption) ?_ (fun v hv hb => ?_);omega;conv=>whnf)|(refine AKM.x ?_;conv=>whnf)))
    ·rw[e1]
     exact AKM.back [] (by (conv=>whnf);exact ⟨rfl,rfl,rfl⟩) (ih n (by omega) ⟨by omega,fun i h1 h2=>by
      by_cases h:i=n
      ·subst h
       rw[e1,Int.toNat_natCast]at hv
       rw[hv];congr 1;omega
      ·exact p2 i (by omega) h2⟩)
    ·refine Bds.up (n+1) (by omega) (by omega) ?_
     (conv=>whnf)
     refine ⟨rfl,_,rfl,?_⟩
     (conv=>whnf)
     rw[e1,Int.toNat_natCast]at hv
     have hm:=p1
     have hct:=cut_found (l:=O) (by assumption) p1 p2 (Or.inr ⟨_,hv,by omega⟩)
     clear ih p1 p2 hv
     (refine SnR.part (enc:=e32) (fun _=>rfl) (by omega) ?_;(conv=>whnf);exact FinP.go (by rw[←hV,←hct];rfl) (by simp only[Clean,true_and];exact cl_dig _))
 ·generalize dg (val a)=x at *
  generalize dg (val b)=y at *
  rw[←v1,←v2]
  have hlen:y.length≤x.length:=by omega
  have hxl:x.length≤1099511627775:=by omega
  clear v1 v2 hA hB la lb
  refine MkR.go (enc:=e32) 0 (x.length+1) rfl (by omega) (by omega) ?_
  (conv=>whnf)
  (repeat' (refine LenP.go ?_;conv=>whnf))
  refine AKM.loop3 (fun i _ _=>x.length-i) (fun (i:Nat) (o:List Nat) (c:Nat)=>i≤x.length∧o.length=x.length+1∧Dig o∧c≤1∧val (o.take i)+4294967296^i*c=val (x.take i)+val (y.take i)) (fun i o c=>[(8,.int .u64 (c:Int)),(29,.int .i64 i)]) (fun i o c=>[(26,26,.rw 1 (o.map e32))]) [] [] 0 (List.replicate (x.length+1) 0) 0 (by (conv=>whnf);exact ⟨rfl,rfl,rfl⟩) ⟨by omega,by simp,dig_zeros _,by omega,by simp [val]⟩ ?_
  intro i o c ⟨p1,p2,p3,p4,p5⟩ ih
  by_cases hi:i<x.length
  ·(repeat' (first|(refine CmpP.go (fun hc => ?_) (fun hc => ?_)<;>first|(exfalso;omega)|(conv=>whnf))|(refine Req.go ?_ ?_;omega;conv=>whnf)|(refine OpP.nadd ?_ ?_;omega;conv=>whnf)|(refine ConvP.u64 ?_ ?_;omega;conv=>whnf)|(refine ConvP.n32 ?_;conv=>whnf)|(refine LenP.go ?_;conv=>whnf)|(refine RdP.dig (by assumption) ?_ (fun e he hb => ?_);omega;conv=>whnf)|(refine AKM.x ?_;conv=>whnf)))
   ·rename_i d hd _
    refine StR.dig (by omega) ?_
    (conv=>whnf)
    (repeat' (first|(refine OpP.add ?_ ?_;omega;conv=>whnf)|(refine OpP.nshr32 ?_;conv=>whnf)))
    refine AKM.back [] (by (conv=>whnf);exact ⟨rfl,rfl,rfl⟩) (ih (i+1) _ _ (by omega) ⟨by omega,by simpa using p2,p3.set _ (by omega),by omega,?_⟩)
    have h1:=val_take_succ hd
    have h2:=val_take_succ he
    have h3:=carry_step (val (o.take i)) (4294967296^i) (d+c+e)
    have h4:=val_set_take (v:=(d+c+e)%4294967296) (show i<o.length by omega)
    rw[h4,h1,h2,Nat.pow_succ]
    generalize 4294967296^i=p at *
    rw[h3,Nat.mul_add,Nat.mul_add]
    omega
   ·refine StR.dig (by omega) ?_
    (conv=>whnf)
    (repeat' (first|(refine OpP.add ?_ ?_;omega;conv=>whnf)|(refine OpP.nshr32 ?_;conv=>whnf)))
    refine AKM.back [] (by (conv=>whnf);exact ⟨rfl,rfl,rfl⟩) (ih (i+1) _ _ (by omega) ⟨by omega,by simpa using p2,p3.set _ (by omega),by omega,?_⟩)
    have h1:=val_take_succ he
    have h2:=val_take_end (y:=y) (i:=i) (by omega)
    have h3:=carry_step (val (o.take i)) (4294967296^i) (e+c)
    have h4:=val_set_take (v:=(e+c)%4294967296) (show i<o.length by omega)
    rw[h4,h1,h2,Nat.pow_succ]
    generalize 4294967296^i=p at *
    rw[h3,Nat.mul_add]
    omega
  ·obtain rfl:i=x.length:=by omega
   clear ih
   (repeat' (first|(refine CmpP.go (fun hc => ?_) (fun hc => ?_)<;>first|(exfalso;omega)|(conv=>whnf))|(refine Req.go ?_ ?_;omega;conv=>whnf)|(refine ConvP.n32i ?_ ?_;omega;conv=>whnf)|(refine LenP.go ?_;conv=>whnf)|(refine AKM.x ?_;conv=>whnf)))
   refine StR.dig (by omega) ?_
   (conv=>whnf)
   skip
   have hV:val (o.set x.length c)=val x+val y:=by
    have h4:=val_set_take (v:=c) (show x.length<o.length by omega)
    rw[List.take_of_length_le (by simp;omega)]at h4
    rw[h4,p5,val_take_all (Nat.le_refl _),val_take_all hlen]
   have hD:Dig (o.set x.length c):=p3.set _ (by omega)
   have hL:(o.set x.length c).length=x.length+1:=by simpa using p2
   clear p3 p4 p5 p2
   generalize o.set x.length c=O at *
   rw[←hL]
   refine CalP.walk 1000 N.nat_cut rfl rfl ?_
   (repeat' (refine AKM.x ?_;conv=>whnf))
   refine AKM.loop1 (fun n=>n) (fun (n:Nat)=>n≤(O).length ∧ ∀ i,n≤i→i<(O).length→(O)[i]? = some 0) (fun n=>[(3,.int .i64 n)]) (fun _=>[]) [] [] (O).length (by first|exact (by (conv=>whnf);exact ⟨rfl,rfl,rfl⟩)|(simp only[List.length_set,List.length_replicate];exact (by (conv=>whnf);exact ⟨rfl,rfl,rfl⟩))) ⟨Nat.le_refl _,fun i h1 h2=>by omega⟩ ?_
   intro n ⟨p1,p2⟩ ih
   rcases n with _|n
   ·(repeat' (first|(refine CmpP.go (fun hc => ?_) (fun hc => ?_)<;>first|(exfalso;omega)|(conv=>whnf))|(refine AKM.x ?_;conv=>whnf)))
    refine Bds.up 0 (by omega) (by omega) ?_
    (conv=>whnf)
    refine ⟨rfl,_,rfl,?_⟩
    (conv=>whnf)
    have hm:=p1
    have hct:=cut_found (l:=O) (by assumption) p1 p2 (Or.inl rfl)
    clear ih p1 p2
    (refine SnR.part (enc:=e32) (fun _=>rfl) (by omega) ?_;(conv=>whnf);exact FinP.go (by rw[←hV,←hct];rfl) (by simp only[Clean,true_and];exact cl_dig _))
   ·have e1:((n+1:Nat):Int)-1=n:=by omega
    (repeat' (first|(refine CmpP.go (fun hc => ?_) (fun hc => ?_)<;>first|(exfalso;omega)|(conv=>whnf))|(refine Req.go ?_ ?_;omega;conv=>whnf)|(refine OpP.sub ?_ ?_;omega;conv=>whnf)|(refine LdR.digi (by assumption) ?_ (fun v hv hb => ?_);omega;conv=>whnf)|(refine AKM.x ?_;conv=>whnf)))
    ·rw[e1]
     exact AKM.back [] (by (conv=>whnf);exact ⟨rfl,rfl,rfl⟩) (ih n (by omega) ⟨by omega,fun i h1 h2=>by
      by_cases h:i=n
      ·subst h
       rw[e1,Int.toNat_natCast]at hv
       rw[hv];congr 1;omega
      ·exact p2 i (by omega) h2⟩)
    ·refine Bds.up (n+1) (by omega) (by omega) ?_
     (conv=>whnf)
     refine ⟨rfl,_,rfl,?_⟩
     (conv=>whnf)
     rw[e1,Int.toNat_natCast]at hv
     have hm:=p1
     have hct:=cut_found (l:=O) (by assumption) p1 p2 (Or.inr ⟨_,hv,by omega⟩)
     clear ih p1 p2 hv
     (refine SnR.part (enc:=e32) (fun _=>rfl) (by omega) ?_;(conv=>whnf);exact FinP.go (by rw[←hV,←hct];rfl) (by simp only[Clean,true_and];exact cl_dig _))
theorem cmpS_le {a b:Int} (h:cmpS a b≤0):a≤b:=by
 unfold cmpS at h
 split at h
 ·omega
 ·split at h<;>omega
theorem cmpS_pos {a b:Int} (h:0<cmpS a b):b<a:=by
 unfold cmpS at h
 split at h
 ·omega
 ·split at h<;>omega
theorem ev_nat_Sub (N:NatGLib L) (a b:List Nat) (q1 q2:Bool) (hA:Dig a) (hB:Dig b) (la:a.length≤1099511627776) (lb:b.length≤1099511627776):Ev L 69 [.sl q1 (a.map e32),.sl q2 (b.map e32)] (.sl false ((dg (val a-val b)).map e32)):=by
 have l1:=dg_len_val hA
 have l2:=dg_len_val hB
 have d1:=dig_dg (val a)
 have d2:=dig_dg (val b)
 have v1:=val_dg (val a)
 have v2:=val_dg (val b)
 refine Ev.x N.nat_Sub rfl rfl ?_
 (repeat' (first|(refine CmpP.go (fun hc => ?_) (fun hc => ?_)<;>first|(exfalso;omega)|(conv=>whnf))|(refine LenP.go ?_;conv=>whnf)|(refine AKM.x ?_;conv=>whnf)|(refine CallP.go (ev_nat_Compare N a b _ _ hA hB la lb) ?_;conv=>whnf)|(refine CalP.ro (ro_cut N a _ hA la) ?_;conv=>whnf)|(refine CalP.ro (ro_cut N b _ hB lb) ?_;conv=>whnf)))
 ·have:=cmpS_le hc
  refine FinP.go ?_ (by simp only[Clean,true_and];exact cl_dig _)
  rw[show val a-val b=0 by omega,dg_zero];rfl
 ·have hlt:=cmpS_pos hc
  have hll:(dg (val b)).length≤(dg (val a)).length:=by
   rcases Nat.lt_or_ge (dg (val a)).length (dg (val b)).length with h|h
   ·have:=val_lt_of_len h;omega
   ·exact h
  have hlt':val b<val a:=by omega
  clear hlt hc
  generalize dg (val a)=x at *
  generalize dg (val b)=y at *
  rw[←v1,←v2]at hlt' ⊢
  clear v1 v2 hA hB lb
  refine MkR.go (enc:=e32) 0 x.length rfl rfl (by omega) ?_
  (conv=>whnf)
  (repeat' (refine LenP.go ?_;conv=>whnf))
  refine AKM.loop3 (fun i _ _=>x.length-i) (fun (i:Nat) (o:List Nat) (c:Nat)=>i≤x.length∧o.length=x.length∧Dig o∧c≤1∧val (o.take i)+val (y.take i)=val (x.take i)+4294967296^i*c) (fun i o c=>[(8,.int .u64 (c:Int)),(25,.int .i64 i)]) (fun i o c=>[(22,22,.rw 1 (o.map e32))]) [] [] 0 (List.replicate x.length 0) 0 (by (conv=>whnf);exact ⟨rfl,rfl,rfl⟩) ⟨by omega,by simp,dig_zeros _,by omega,by simp [val]⟩ ?_
  intro i o c ⟨p1,p2,p3,p4,p5⟩ ih
  by_cases hi:i<x.length
  ·(repeat' (first|(refine CmpP.go (fun hc => ?_) (fun hc => ?_)<;>first|(exfalso;omega)|(conv=>whnf))|(refine Req.go ?_ ?_;omega;conv=>whnf)|(refine OpP.nsubw ?_ ?_;omega;conv=>whnf)|(refine ConvP.u64 ?_ ?_;omega;conv=>whnf)|(refine ConvP.n32 ?_;conv=>whnf)|(refine LenP.go ?_;conv=>whnf)|(refine RdP.dig (by assumption) ?_ (fun e he hb => ?_);omega;conv=>whnf)|(refine AKM.x ?_;conv=>whnf)))
   ·rename_i d hd hdb
    obtain ⟨s1,s2⟩:=sub_step2 hdb hb p4
    refine StR.dig (by omega) ?_
    (conv=>whnf)
    (repeat' (first|(refine OpP.add ?_ ?_;omega;conv=>whnf)|(refine OpP.nshr63 ?_;conv=>whnf)))
    generalize w64s (w64s d c) e=t at *
    refine AKM.back [] (by (conv=>whnf);exact ⟨rfl,rfl,rfl⟩) (ih (i+1) _ _ (by omega) ⟨by omega,by simpa using p2,p3.set _ (by omega),s2,?_⟩)
    rw[val_set_take (by omega),val_take_succ hd,val_take_succ he,Nat.pow_succ]
    exact sub_carry p5 s1
   ·obtain ⟨s1,s2⟩:=sub_step1 hb p4
    refine StR.dig (by omega) ?_
    (conv=>whnf)
    (repeat' (first|(refine OpP.add ?_ ?_;omega;conv=>whnf)|(refine OpP.nshr63 ?_;conv=>whnf)))
    generalize w64s e c=t at *
    refine AKM.back [] (by (conv=>whnf);exact ⟨rfl,rfl,rfl⟩) (ih (i+1) _ _ (by omega) ⟨by omega,by simpa using p2,p3.set _ (by omega),s2,?_⟩)
    rw[val_set_take (by omega),val_take_succ he,val_take_end (by omega),Nat.pow_succ]
    rw[←Nat.add_zero (t%4294967296)]at s1
    have:=sub_carry (e:=0) p5 s1
    rw[Nat.mul_zero,Nat.add_zero]at this
    exact this
  ·obtain rfl:i=x.length:=by omega
   clear ih
   have hc0:c=0:=by
    rw[val_take_all (by omega),val_take_all hll,val_take_all (Nat.le_refl _)]at p5
    have:=val_lt p3
    rw[p2]at this
    rcases Nat.eq_zero_or_pos c with h|h
    ·exact h
    ·have:c=1:=by omega
     subst this
     omega
   subst hc0
   have hV:val o=val x-val y:=by
    rw[val_take_all (by omega),val_take_all hll,val_take_all (Nat.le_refl _)]at p5
    omega
   clear p5 p4
   rw[←p2]
   (repeat' (first|(refine CmpP.go (fun hc => ?_) (fun hc => ?_)<;>first|(exfalso;omega)|(conv=>whnf))|(refine AKM.x ?_;conv=>whnf)))
   refine CalP.walk 1000 N.nat_cut rfl rfl ?_
   (repeat' (refine AKM.x ?_;conv=>whnf))
   refine AKM.loop1 (fun n=>n) (fun (n:Nat)=>n≤(o).length ∧ ∀ i,n≤i→i<(o).length→(o)[i]? = some 0) (fun n=>[(3,.int .i64 n)]) (fun _=>[]) [] [] (o).length (by first|exact (by (conv=>whnf);exact ⟨rfl,rfl,rfl⟩)|(simp only[List.length_set,List.length_replicate];exact (by (conv=>whnf);exact ⟨rfl,rfl,rfl⟩))) ⟨Nat.le_refl _,fun i h1 h2=>by omega⟩ ?_
   intro n ⟨p1,p2⟩ ih
   rcases n with _|n
   ·(repeat' (first|(refine CmpP.go (fun hc => ?_) (fun hc => ?_)<;>first|(exfalso;omega)|(conv=>whnf))|(refine AKM.x ?_;conv=>whnf)))
    refine Bds.up 0 (by omega) (by omega) ?_
    (conv=>whnf)
    refine ⟨rfl,_,rfl,?_⟩
    (conv=>whnf)
    have hm:=p1
    have hct:=cut_found (l:=o) (by assumption) p1 p2 (Or.inl rfl)
    clear ih p1 p2
    (refine SnR.part (enc:=e32) (fun _=>rfl) (by omega) ?_;(conv=>whnf);exact FinP.go (by rw[←hV,←hct];rfl) (by simp only[Clean,true_and];exact cl_dig _))
   ·have e1:((n+1:Nat):Int)-1=n:=by omega
    (repeat' (first|(refine CmpP.go (fun hc => ?_) (fun hc => ?_)<;>first|(exfalso;omega)|(conv=>whnf))|(refine Req.go ?_ ?_;omega;conv=>whnf)|(refine OpP.sub ?_ ?_;omega;conv=>whnf)|(refine LdR.digi (by assumption) ?_ (fun v hv hb => ?_);omega;conv=>whnf)|(refine AKM.x ?_;conv=>whnf)))
    ·rw[e1]
     exact AKM.back [] (by (conv=>whnf);exact ⟨rfl,rfl,rfl⟩) (ih n (by omega) ⟨by omega,fun i h1 h2=>by
      by_cases h:i=n
      ·subst h
       rw[e1,Int.toNat_natCast]at hv
       rw[hv];congr 1;omega
      ·exact p2 i (by omega) h2⟩)
    ·refine Bds.up (n+1) (by omega) (by omega) ?_
     (conv=>whnf)
     refine ⟨rfl,_,rfl,?_⟩
     (conv=>whnf)
     rw[e1,Int.toNat_natCast]at hv
     have hm:=p1
     have hct:=cut_found (l:=o) (by assumption) p1 p2 (Or.inr ⟨_,hv,by omega⟩)
     clear ih p1 p2 hv
     (refine SnR.part (enc:=e32) (fun _=>rfl) (by omega) ?_;(conv=>whnf);exact FinP.go (by rw[←hV,←hct];rfl) (by simp only[Clean,true_and];exact cl_dig _))
theorem ev_nat_Mul (N:NatGLib L) (a b:List Nat) (q1 q2:Bool) (hA:Dig a) (hB:Dig b) (lab:a.length+b.length≤1099511627776):Ev L 70 [.sl q1 (a.map e32),.sl q2 (b.map e32)] (.sl false ((dg (val a*val b)).map e32)):=by
 have l1:=dg_len_val hA
 have l2:=dg_len_val hB
 have d1:=dig_dg (val a)
 have d2:=dig_dg (val b)
 have v1:=val_dg (val a)
 have v2:=val_dg (val b)
 refine Ev.x N.nat_Mul rfl rfl ?_
 have hz : ∀ p:Prop,((dg (val a)).length:Int)=0∨((dg (val b)).length:Int)=0→FinP (.sl false []) (.sl false ((dg (val a*val b)).map e32)):=fun _ h=>by
  have:val a*val b=0:=by
   rcases h with h|h
   ·have:dg (val a)=[]:=List.eq_nil_of_length_eq_zero (by omega)
    rw[dg_eq_nil.1 this,Nat.zero_mul]
   ·have:dg (val b)=[]:=List.eq_nil_of_length_eq_zero (by omega)
    rw[dg_eq_nil.1 this,Nat.mul_zero]
  exact FinP.go (by rw[this,dg_zero];rfl) (by simp only[Clean,true_and];exact cl_dig _)
 (repeat' (first|(refine CmpP.go (fun hc => ?_) (fun hc => ?_)<;>first|(exfalso;omega)|(conv=>whnf))|(refine OpP.add ?_ ?_;omega;conv=>whnf)|(refine LenP.go ?_;conv=>whnf)|(refine AKM.x ?_;conv=>whnf)|(refine CalP.ro (ro_cut N a _ hA (by omega)) ?_;conv=>whnf)|(refine CalP.ro (ro_cut N b _ hB (by omega)) ?_;conv=>whnf)))
 ·exact hz True (Or.inl hc)
 ·exact hz True (Or.inr hc)
 ·clear hz
  generalize dg (val a)=x at *
  generalize dg (val b)=y at *
  rw[←v1,←v2]
  have hxy:x.length+y.length≤1099511627776:=by omega
  clear v1 v2 hA hB lab l1 l2
  refine MkR.go (enc:=e32) 0 (x.length+y.length) rfl (by omega) (by omega) ?_
  (conv=>whnf)
  (repeat' (refine LenP.go ?_;conv=>whnf))
  refine AKM.loop2 (fun i _=>x.length-i) (fun (i:Nat) (o:List Nat)=>i≤x.length∧o.length=x.length+y.length∧Dig o∧val o=val (x.take i)*val y ∧ ∀ k,i+y.length≤k→k<o.length→o[k]? = some 0) (fun i o=>[(34,.int .i64 i)]) (fun i o=>[(31,31,.rw 1 (o.map e32))]) [] [] 0 (List.replicate (x.length+y.length) 0) (by (conv=>whnf);exact ⟨rfl,rfl,rfl⟩) ⟨by omega,by simp,dig_zeros _,by simp [val,val_zeros],fun k h1 h2=>by simp at h2;simp [h2]⟩ ?_
  intro i O ⟨p1,p2,p3,p4,p5⟩ ih
  by_cases hi:i<x.length
  ·obtain ⟨d,hd⟩ : ∃ d,x[i]? = some d:=⟨_,zE hi⟩
   have hdb:=d1.at hd
   (repeat' (first|(refine CmpP.go (fun hc => ?_) (fun hc => ?_)<;>first|(exfalso;omega)|(conv=>whnf))|(refine OpP.add ?_ ?_;omega;conv=>whnf)|(refine LenP.go ?_;conv=>whnf)|(refine RdP.at (by assumption) ?_ rfl ?_;omega;conv=>whnf)|(refine AKM.x ?_;conv=>whnf)))
   ·refine AKM.back [] (by (conv=>whnf);exact ⟨rfl,rfl,rfl⟩) (ih (i+1) O (by omega) ⟨by omega,p2,p3,?_,fun k h1 h2=>p5 k (by omega) h2⟩)
    rw[val_take_succ hd,p4,show d=0 by omega,Nat.mul_zero,Nat.add_zero]
   ·refine AKM.loop3 (fun j _ _=>y.length-j) (fun (j:Nat) (o:List Nat) (c:Nat)=>j≤y.length∧o.length=x.length+y.length∧Dig o∧c<4294967296∧val o+4294967296^(i+j)*c=val O+4294967296^i*(d*val (y.take j)) ∧ ∀ k,i+j≤k→o[k]? = O[k]?) (fun j o c=>[(10,.int .u64 (c:Int)),(43,.int .i64 j)]) (fun j o c=>[(31,31,.rw 1 (o.map e32))]) [] [] 0 O 0 (by (conv=>whnf);exact ⟨rfl,rfl,rfl⟩) ⟨by omega,p2,p3,by omega,by simp [val],fun _ _=>rfl⟩ ?_
    intro j o c ⟨r1,r2,r3,r4,r5,r6⟩ jh
    have e1:((i:Int)+j).toNat=i+j:=by omega
    by_cases hj:j<y.length
    ·obtain ⟨w,hw⟩ : ∃ w,y[j]? = some w:=⟨_,zE hj⟩
     have hwb:=d2.at hw
     have hm:=mul_le_dig hdb hwb
     (repeat' (first|(refine CmpP.go (fun hc => ?_) (fun hc => ?_)<;>first|(exfalso;omega)|(conv=>whnf))|(refine Req.go ?_ ?_;omega;conv=>whnf)|(refine OpP.add ?_ ?_;omega;conv=>whnf)|(refine OpP.nadd ?_ ?_;omega;conv=>whnf)|(refine OpP.nmul ?_ ?_;omega;conv=>whnf)|(refine ConvP.u64 ?_ ?_;omega;conv=>whnf)|(refine ConvP.n32 ?_;conv=>whnf)|(refine RdP.at (by assumption) ?_ rfl ?_;omega;conv=>whnf)|(refine LdR.dig (by assumption) ?_ (fun v hv hb => ?_);omega;conv=>whnf)|(refine AKM.x ?_;conv=>whnf)))
     refine StR.digo (i+j) (by omega) (by omega) ?_
     (conv=>whnf)
     (repeat' (first|(refine OpP.add ?_ ?_;omega;conv=>whnf)|(refine OpP.nshr32 ?_;conv=>whnf)))
     refine AKM.back [] (by (conv=>whnf);exact ⟨rfl,rfl,rfl⟩) (jh (j+1) _ _ (by omega) ⟨by omega,by simpa using r2,r3.set _ (by omega),by omega,?_,?_⟩)
     ·have h1:=val_set (v:=(d*w+v+c)%4294967296) hv
      have h2:=carry_step 0 (4294967296^(i+j)) (d*w+v+c)
      rw[val_take_succ hw,show i+(j+1)=i+j+1 by omega,Nat.pow_succ (4294967296) (i+j)]
      have h3:4294967296^i*(d*(val (y.take j)+4294967296^j*w))=4294967296^i*(d*val (y.take j))+4294967296^(i+j)*(d*w):=by rw[Nat.pow_add];grind
      rw[h3]
      generalize 4294967296^(i+j)=P at *
      rw[Nat.mul_add P,Nat.mul_add P]at h2
      omega
     ·intro k hk
      rw[List.getElem?_set_ne (by omega)]
      exact r6 k (by omega)
    ·obtain rfl:j=y.length:=by omega
     clear jh
     (repeat' (first|(refine CmpP.go (fun hc => ?_) (fun hc => ?_)<;>first|(exfalso;omega)|(conv=>whnf))|(refine Req.go ?_ ?_;omega;conv=>whnf)|(refine OpP.add ?_ ?_;omega;conv=>whnf)|(refine ConvP.n32i ?_ ?_;omega;conv=>whnf)|(refine LenP.go ?_;conv=>whnf)|(refine AKM.x ?_;conv=>whnf)))
     have hz:=r6 (i+y.length) (by omega)
     rw[p5 (i+y.length) (by omega) (by omega)]at hz
     refine StR.digo (i+y.length) (by omega) (by omega) ?_
     (conv=>whnf)
     (repeat' (refine OpP.add ?_ ?_;omega;conv=>whnf))
     refine AKM.back [] (by (conv=>whnf);exact ⟨rfl,rfl,rfl⟩) (ih (i+1) _ (by omega) ⟨by omega,by simpa using r2,r3.set _ (by omega),?_,?_⟩)
     ·have h1:=val_set (v:=c) hz
      rw[Nat.mul_zero,Nat.add_zero]at h1
      rw[h1,r5,p4,val_take_all (Nat.le_refl _),val_take_succ hd,Nat.add_mul,Nat.mul_assoc]
     ·intro k h1 h2
      rw[List.length_set]at h2
      rw[List.getElem?_set_ne (by omega),r6 k (by omega)]
      exact p5 k (by omega) (by omega)
  ·obtain rfl:i=x.length:=by omega
   clear ih
   rw[val_take_all (Nat.le_refl _)]at p4
   rw[←p4,←p2]
   (repeat' (first|(refine CmpP.go (fun hc => ?_) (fun hc => ?_)<;>first|(exfalso;omega)|(conv=>whnf))|(refine AKM.x ?_;conv=>whnf)))
   clear p5
   refine CalP.walk 1000 N.nat_cut rfl rfl ?_
   (repeat' (refine AKM.x ?_;conv=>whnf))
   refine AKM.loop1 (fun n=>n) (fun (n:Nat)=>n≤(O).length ∧ ∀ i,n≤i→i<(O).length→(O)[i]? = some 0) (fun n=>[(3,.int .i64 n)]) (fun _=>[]) [] [] (O).length (by first|exact (by (conv=>whnf);exact ⟨rfl,rfl,rfl⟩)|(simp only[List.length_set,List.length_replicate];exact (by (conv=>whnf);exact ⟨rfl,rfl,rfl⟩))) ⟨Nat.le_refl _,fun i h1 h2=>by omega⟩ ?_
   intro n ⟨p1,p2⟩ ih
   rcases n with _|n
   ·(repeat' (first|(refine CmpP.go (fun hc => ?_) (fun hc => ?_)<;>first|(exfalso;omega)|(conv=>whnf))|(refine AKM.x ?_;conv=>whnf)))
    refine Bds.up 0 (by omega) (by omega) ?_
    (conv=>whnf)
    refine ⟨rfl,_,rfl,?_⟩
    (conv=>whnf)
    have hm:=p1
    have hct:=cut_found (l:=O) (by assumption) p1 p2 (Or.inl rfl)
    clear ih p1 p2
    (refine SnR.part (enc:=e32) (fun _=>rfl) (by omega) ?_;(conv=>whnf);exact FinP.go (by rw[←hct];rfl) (by simp only[Clean,true_and];exact cl_dig _))
   ·have e1:((n+1:Nat):Int)-1=n:=by omega
    (repeat' (first|(refine CmpP.go (fun hc => ?_) (fun hc => ?_)<;>first|(exfalso;omega)|(conv=>whnf))|(refine Req.go ?_ ?_;omega;conv=>whnf)|(refine OpP.sub ?_ ?_;omega;conv=>whnf)|(refine LdR.digi (by assumption) ?_ (fun v hv hb => ?_);omega;conv=>whnf)|(refine AKM.x ?_;conv=>whnf)))
    ·rw[e1]
     exact AKM.back [] (by (conv=>whnf);exact ⟨rfl,rfl,rfl⟩) (ih n (by omega) ⟨by omega,fun i h1 h2=>by
      by_cases h:i=n
      ·subst h
       rw[e1,Int.toNat_natCast]at hv
       rw[hv];congr 1;omega
      ·exact p2 i (by omega) h2⟩)
    ·refine Bds.up (n+1) (by omega) (by omega) ?_
     (conv=>whnf)
     refine ⟨rfl,_,rfl,?_⟩
     (conv=>whnf)
     rw[e1,Int.toNat_natCast]at hv
     have hm:=p1
     have hct:=cut_found (l:=O) (by assumption) p1 p2 (Or.inr ⟨_,hv,by omega⟩)
     clear ih p1 p2 hv
     (refine SnR.part (enc:=e32) (fun _=>rfl) (by omega) ?_;(conv=>whnf);exact FinP.go (by rw[←hct];rfl) (by simp only[Clean,true_and];exact cl_dig _))
end Go.Eng
namespace Go.Eng
@[irreducible] def shLo (d s : Nat) : Nat := d * 2 ^ s % 4294967296
@[irreducible] def shHi (d s : Nat) : Nat := d * 2 ^ s / 4294967296
theorem shLo_def (d s:Nat):shLo d s=d*2^s%4294967296:=by unfold shLo;rfl
theorem shHi_def (d s:Nat):shHi d s=d*2^s/4294967296:=by unfold shHi;rfl
theorem two32 {s:Nat} (hs:s≤32):4294967296=2^s*2^(32-s):=by
 rw[←Nat.pow_add,show s+(32-s)=32 by omega]
theorem sh_sum (d s:Nat):shLo d s+4294967296*shHi d s=d*2^s:=by
 rw[shLo_def,shHi_def];exact Nat.mod_add_div _ _
theorem shLo_eq {d s:Nat} (hs:s≤32):shLo d s=2^s*(d%2^(32-s)):=by
 rw[shLo_def,two32 hs,Nat.mul_comm d,Nat.mul_mod_mul_left]
theorem shHi_eq {d s:Nat} (hs:s≤32):shHi d s=d/2^(32-s):=by
 rw[shHi_def,two32 hs,Nat.mul_comm d,Nat.mul_div_mul_left _ _ (Nat.two_pow_pos s)]
theorem sh_facts {d s:Nat} (hd:d<4294967296) (hs:s≤32):shLo d s%2^s=0∧shHi d s<2^s∧shLo d s+2^s≤4294967296∧d*2^s≤18446744073709551615:=by
 refine ⟨by rw[shLo_eq hs,Nat.mul_mod_right],?_,?_,?_⟩
 ·rw[shHi_eq hs,Nat.div_lt_iff_lt_mul (Nat.two_pow_pos _),←Nat.pow_add,show s+(32-s)=32 by omega];exact hd
 ·rw[shLo_eq hs]
  have h1:d%2^(32-s)+1≤2^(32-s):=Nat.mod_lt _ (Nat.two_pow_pos _)
  have h2:=Nat.mul_le_mul_left (2^s) h1
  rw[Nat.mul_add,Nat.mul_one,←two32 hs]at h2
  exact h2
 ·have h1:2^s≤2^32:=Nat.pow_le_pow_right (by omega) hs
  have h2:d*2^s≤4294967295*4294967296:=Nat.mul_le_mul (by omega) h1
  omega
theorem pow_s_le {s:Nat} (hs:s≤32):2^s≤4294967296:=(Nat.pow_le_pow_right (by omega) hs:2^s≤2^32)
theorem lift_step {V X p lo s d:Nat} (h:V+p*lo=X*2^s):V+p*(shLo d s+lo)+p*4294967296*shHi d s=(X+p*d)*2^s:=by
 have h1:=sh_sum d s
 have h2:p*(shLo d s+lo)+p*4294967296*shHi d s=p*lo+p*(d*2^s):=by
  rw[←h1];grind
 rw[Nat.add_mul,←h,Nat.mul_assoc p d]
 omega
theorem lower_step {d V s:Nat} (hs:s≤32):(d+4294967296*V)/2^s=d/2^s+V%2^s*2^(32-s)+4294967296*(V/2^s):=by
 have e:4294967296*V=2^s*(2^(32-s)*V):=by rw[←Nat.mul_assoc,←two32 hs]
 rw[e,Nat.add_mul_div_left _ _ (Nat.two_pow_pos s)]
 have h:=Nat.mod_add_div V (2^s)
 have h2:2^(32-s)*V=V%2^s*2^(32-s)+4294967296*(V/2^s):=by
  have h3:2^(32-s)*V=2^(32-s)*(V%2^s+2^s*(V/2^s)):=by rw[h]
  rw[h3,two32 hs];grind
 omega
theorem lower_mod {d V s:Nat} (hs:s≤32):(d+4294967296*V)%2^s=d%2^s:=by
 have e:4294967296*V=2^s*(2^(32-s)*V):=by rw[←Nat.mul_assoc,←two32 hs]
 rw[e,Nat.add_mul_mod_self_left]
theorem lower_high {d s:Nat} (hs:s≤32):d*2^(32-s)%4294967296=d%2^s*2^(32-s):=by
 have e:4294967296=2^s*2^(32-s):=two32 hs
 rw[e,Nat.mul_mod_mul_right]
theorem lower_facts {d V s:Nat} (hd:d<4294967296) (hs:s≤32):d/2^s<2^(32-s)∧V%2^s*2^(32-s)%2^(32-s)=0∧V%2^s*2^(32-s)+2^(32-s)≤4294967296:=by
 refine ⟨?_,Nat.mul_mod_left _ _,?_⟩
 ·rw[Nat.div_lt_iff_lt_mul (Nat.two_pow_pos _),←Nat.pow_add,show 32-s+s=32 by omega];exact hd
 ·have h1:V%2^s+1≤2^s:=Nat.mod_lt _ (Nat.two_pow_pos _)
  have h2:=Nat.mul_le_mul_right (2^(32-s)) h1
  rw[Nat.add_mul,Nat.one_mul,←two32 hs]at h2
  exact h2
def blen (x:Nat):Nat:=if x=0 then 0 else x.log2+1
theorem blen_ge {x:Nat} (h:x≠0):2^(blen x-1)≤x∧x<2^blen x∧1≤blen x:=by
 unfold blen
 rw[if_neg h]
 exact ⟨Nat.log2_self_le h,Nat.lt_log2_self,by omega⟩
theorem blen_le {x k:Nat} (h:x<2^k):blen x≤k:=by
 by_cases h0:x=0
 ·subst h0;unfold blen;simp
 ·obtain ⟨h1,_,h3⟩:=blen_ge h0
  have h2:2^(blen x-1)<2^k:=by omega
  have:=(Nat.pow_lt_pow_iff_right (by omega)).1 h2
  omega
theorem blen_div {x:Nat} (n:Nat) (h:2^n≤x):blen (x/2^n)+n=blen x:=by
 have hp:=Nat.two_pow_pos n
 have hx:x≠0:=by omega
 have hq:x/2^n≠0:=by have:=Nat.div_pos h hp;omega
 unfold blen
 rw[if_neg hx,if_neg hq]
 have:(x/2^n).log2+n=x.log2:=by
  symm
  rw[Nat.log2_eq_iff hx]
  have h1:=Nat.log2_self_le hq
  have h2:x/2^n<2^((x/2^n).log2+1):=Nat.lt_log2_self
  rw[Nat.le_div_iff_mul_le hp,←Nat.pow_add]at h1
  rw[Nat.div_lt_iff_lt_mul hp,←Nat.pow_add]at h2
  exact ⟨h1,by rw[show (x/2^n).log2+n+1=(x/2^n).log2+1+n by omega];exact h2⟩
 omega
theorem lz_top {x:Nat} (h0:x≠0) (hx:x<4294967296):blen x≤32∧1≤blen x∧2147483648≤x*2^(32-blen x)∧x*2^(32-blen x)<4294967296:=by
 obtain ⟨h1,h2,h3⟩:=blen_ge h0
 have hk:blen x≤32:=blen_le (k:=32) hx
 refine ⟨hk,h3,?_,?_⟩
 ·have:=Nat.mul_le_mul_right (2^(32-blen x)) h1
  rw[←Nat.pow_add,show blen x-1+(32-blen x)=31 by omega]at this
  exact this
 ·have:=Nat.mul_lt_mul_of_pos_right h2 (Nat.two_pow_pos (32-blen x))
  rw[←Nat.pow_add,show blen x+(32-blen x)=32 by omega]at this
  exact this
end Go.Eng

namespace Go.Eng
open F
section
variable {K:AV→Prop} {a b s:Nat} {k':IntKind}
theorem OpP.sh4 (hs:s≤32) (hk:K (.int .u32 ((shLo a s:Nat):Int))):OpP .shl .u32 (a:Int) k' (s:Int) K:=by
 refine OpP.nshlv (show s≤IntKind.u32.bits from hs) ?_
 rw[wrap_u32,←shLo_def];exact hk
theorem OpP.sh8 (hs:s≤64) (h:a*2^s≤18446744073709551615) (hk:K (.int .u64 ((a*2^s:Nat):Int))):OpP .shl .u64 (a:Int) k' (s:Int) K:=by
 refine OpP.nshlv (show s≤IntKind.u64.bits from hs) ?_
 rw[IntWalk.u64_in _ (by omega)];exact hk
theorem OpP.or4 (n:Nat) (hx:a%2^n=0) (hy:b<2^n) (h:a+b≤4294967295) (hk:K (.int .u32 ((a+b:Nat):Int))):OpP .or .u32 (a:Int) .u32 (b:Int) K :=
 OpP.norv n hx hy (show a+b<4294967296 by omega) (IntWalk.u32_in _ (by omega)) hk
theorem OpP.or4r (n:Nat) (hx:b%2^n=0) (hy:a<2^n) (h:a+b≤4294967295) (hk:K (.int .u32 ((a+b:Nat):Int))):OpP .or .u32 (a:Int) .u32 (b:Int) K:=by
 have e:intBin .or .u32 (a:Int) .u32 (b:Int)=intBin .or .u32 (b:Int) .u32 (a:Int):=by
  simp only[intBin,if_true,BitVec.or_comm]
 rw[Nat.add_comm]at hk h
 obtain ⟨v,h1,h2⟩:=OpP.or4 (K:=K) n hx hy h hk
 exact ⟨v,by rw[e];exact h1,h2⟩
theorem OpP.sr4 (hs:s≤32) (hk:K (.int .u32 ((a/2^s:Nat):Int))):OpP .shr .u32 (a:Int) k' (s:Int) K:=OpP.nshrv (show s≤IntKind.u32.bits from hs) hk
theorem ConvP.hi {K:Int→Prop} (hk:K ((shHi a s:Nat):Int)) (h:shHi a s≤4294967295):ConvP .u32 ((a*2^s/4294967296:Nat):Int) K:=by
 rw[←shHi_def]
 exact ConvP.n32i h hk
end
attribute [local irreducible] AKM CmpP Req OpP UnP ConvP RdP LdR StR MkR LenP AppR AppN CpyR RowP SnR Bds SlS CallP CalP FinP pw LdM GetM SetM PutM MkM AppM SnM FlP CallR
set_option maxHeartbeats 1000000
variable {L:Lib}
def LiftIs (a:List Nat) (s:Nat) (o:List Nat):Prop:=Dig o∧(a.length≤o.length∧o.length≤a.length+1)∧(val a*2^s<4294967296^o.length→val o=val a*2^s)
theorem lift_end {a o:List Nat} {s lo:Nat} (hD:Dig o) (hl:o.length=a.length) (h:val (o.take a.length)+4294967296^a.length*lo=val (a.take a.length)*2^s):LiftIs a s o:=by
 refine ⟨hD,by omega,fun hlt => ?_⟩
 rw[val_take_all (by omega),val_take_all (Nat.le_refl _)]at h
 rw[hl]at hlt
 have:lo=0:=by
  rcases Nat.eq_zero_or_pos lo with h0|h0
  ·exact h0
  ·have:4294967296^a.length*1≤4294967296^a.length*lo:=Nat.mul_le_mul_left _ h0
   omega
 subst this
 omega
theorem lift_end2 {a o:List Nat} {s lo:Nat} (hD:Dig o) (hlo:lo<4294967296) (hl:o.length=a.length+1) (h:val (o.take a.length)+4294967296^a.length*lo=val (a.take a.length)*2^s):LiftIs a s (o.set a.length lo):=by
 refine ⟨hD.set _ hlo,by simp;omega,fun _ => ?_⟩
 have h1:=val_set_take (v:=lo) (show a.length<o.length by omega)
 rw[val_take_all (by simp;omega),h,val_take_all (Nat.le_refl _)]at h1
 exact h1
theorem ev_nat_lift (N:NatGLib L) (a:List Nat) (q:Bool) (s n:Nat) (hA:Dig a) (hs:s≤31) (hn:a.length≤n∧n≤a.length+1) (la:a.length≤1099511627776) : ∃ r,Ev L 71 [.sl q (a.map e32),.int .u64 (s:Int),.int .i64 (n:Int)] r ∧ ∃ o,LiftIs a s o∧o.length=n∧r = .sl false (o.map e32):=by
 refine Ev.xE N.nat_lift rfl rfl ?_
 (repeat' (refine AKM.x ?_;conv=>whnf))
 refine MkR.go (enc:=e32) 0 n rfl rfl (by omega) ?_
 (conv=>whnf)
 (repeat' (refine LenP.go ?_;conv=>whnf))
 refine AKM.loop3 (fun i _ _=>a.length-i) (fun (i:Nat) (o:List Nat) (lo:Nat)=>i≤a.length∧o.length=n∧Dig o∧lo<2^s∧val (o.take i)+4294967296^i*lo=val (a.take i)*2^s) (fun i o lo=>[(8,.int .u32 (lo:Int)),(15,.int .i64 i)]) (fun i o lo=>[(71012,71012,.rw 1 (o.map e32))]) [] [] 0 (List.replicate n 0) 0 (by (conv=>whnf);exact ⟨rfl,rfl,rfl⟩) ⟨by omega,by simp,dig_zeros _,Nat.two_pow_pos s,by simp [val]⟩ ?_
 intro i o lo ⟨p1,p2,p3,p4,p5⟩ ih
 have hps:=pow_s_le (s:=s) (by omega)
 by_cases hi:i<a.length
 ·obtain ⟨d,hd⟩ : ∃ d,a[i]? = some d:=⟨_,zE hi⟩
  have hdb:=hA.at hd
  obtain ⟨f1,f2,f3,f4⟩:=sh_facts (s:=s) hdb (by omega)
  (repeat' (first|(refine CmpP.go (fun hc => ?_) (fun hc => ?_)<;>first|(exfalso;omega)|(conv=>whnf))|(refine RdP.at (by assumption) ?_ rfl ?_;omega;conv=>whnf)|(refine AKM.x ?_;conv=>whnf)))
  refine OpP.sh4 (by omega) ?_
  (conv=>whnf)
  skip
  refine OpP.or4 s f1 p4 (by omega) ?_
  (conv=>whnf)
  (repeat' (first|(refine Req.go ?_ ?_;omega;conv=>whnf)|fail))
  refine StR.dig (by omega) ?_
  (conv=>whnf)
  (repeat' (refine ConvP.u64 ?_ ?_;omega;conv=>whnf))
  refine OpP.sh8 (by omega) f4 ?_
  (conv=>whnf)
  (repeat' (first|(refine OpP.add ?_ ?_;omega;conv=>whnf)|(refine OpP.nshr32 ?_;conv=>whnf)|(refine ConvP.n32i ?_ ?_;omega;conv=>whnf)))
  rw[←shHi_def]
  refine AKM.back [] (by (conv=>whnf);exact ⟨rfl,rfl,rfl⟩) (ih (i+1) _ _ (by omega) ⟨by omega,by simpa using p2,p3.set _ (by omega),f2,?_⟩)
  rw[val_set_take (by omega),val_take_succ hd,Nat.pow_succ]
  exact lift_step p5
 ·obtain rfl:i=a.length:=by omega
  clear ih
  (repeat' (first|(refine CmpP.go (fun hc => ?_) (fun hc => ?_)<;>first|(exfalso;omega)|(conv=>whnf))|(refine Req.go ?_ ?_;omega;conv=>whnf)|(refine LenP.go ?_;conv=>whnf)|(refine AKM.x ?_;conv=>whnf)))
  ·refine StR.dig (by omega) ?_
   (conv=>whnf)
   skip
   refine ⟨_,?_,_,lift_end2 p3 (by omega) (by omega) p5,by simpa using p2,rfl⟩
   (conv=>whnf)
   refine SnR.all (enc:=e32) (fun _=>rfl) rfl (by simp [p2]) ?_
   (conv=>whnf)
   exact FinP.go rfl (by simp only[Clean,true_and];exact cl_dig _)
  ·refine ⟨_,?_,_,lift_end p3 (by omega) p5,p2,rfl⟩
   (conv=>whnf)
   refine SnR.all (enc:=e32) (fun _=>rfl) rfl (by simp [p2]) ?_
   (conv=>whnf)
   exact FinP.go rfl (by simp only[Clean,true_and];exact cl_dig _)
theorem ev_nat_lower (N:NatGLib L) (a:List Nat) (q:Bool) (s:Nat) (hA:Dig a) (hs:s≤31) (la:a.length≤1099511627776) : ∃ r,Ev L 72 [.sl q (a.map e32),.int .u64 (s:Int)] r ∧ ∃ o,Dig o∧o.length=a.length∧val o=val a/2^s∧r = .sl false (o.map e32):=by
 refine Ev.xE N.nat_lower rfl rfl ?_
 (repeat' (first|(refine LenP.go ?_;conv=>whnf)|(refine AKM.x ?_;conv=>whnf)))
 refine MkR.go (enc:=e32) 0 a.length rfl rfl (by omega) ?_
 (conv=>whnf)
 (repeat' (first|(refine OpP.sub ?_ ?_;omega;conv=>whnf)|(refine LenP.go ?_;conv=>whnf)))
 refine AKM.loop3 (fun n _ _=>n) (fun (n:Nat) (o:List Nat) (hi:Nat)=>n≤a.length∧o.length=a.length∧Dig o∧hi=val (a.drop n)%2^s*2^(32-s)∧val (o.drop n)=val (a.drop n)/2^s) (fun n o hi=>[(6,.int .u32 (hi:Int)),(7,.int .i64 ((n:Int)-1))]) (fun n o hi=>[(10,10,.rw 1 (o.map e32))]) [] [] a.length (List.replicate a.length 0) 0 (by (conv=>whnf);exact ⟨rfl,rfl,rfl⟩) ⟨by omega,by simp,dig_zeros _,by rw[List.drop_of_length_le (Nat.le_refl _)];simp [val],by rw[List.drop_of_length_le (Nat.le_refl _),List.drop_of_length_le (by simp)];simp [val]⟩ ?_
 intro n o hi ⟨p1,p2,p3,p4,p5⟩ ih
 rcases n with _|n
 ·(repeat' (first|(refine CmpP.go (fun hc => ?_) (fun hc => ?_)<;>first|(exfalso;omega)|(conv=>whnf))|(refine AKM.x ?_;conv=>whnf)))
  rw[List.drop_zero,List.drop_zero]at p5
  refine ⟨_,?_,_,p3,p2,p5,rfl⟩
  (conv=>whnf)
  refine SnR.all (enc:=e32) (fun _=>rfl) rfl p2.symm ?_
  (conv=>whnf)
  exact FinP.go rfl (by simp only[Clean,true_and];exact cl_dig _)
 ·have e1:((n+1:Nat):Int)-1=n:=by omega
  rw[e1]
  obtain ⟨d,hd⟩ : ∃ d,a[n]? = some d:=⟨_,zE (by omega)⟩
  have hdb:=hA.at hd
  obtain ⟨f1,f2,f3⟩:=lower_facts (V:=val (a.drop (n+1))) hdb (show s≤32 by omega)
  obtain ⟨g1,g2,g3,g4⟩:=sh_facts hdb (show 32-s≤32 by omega)
  rw[←p4]at f2 f3
  (repeat' (first|(refine CmpP.go (fun hc => ?_) (fun hc => ?_)<;>first|(exfalso;omega)|(conv=>whnf))|(refine RdP.at (by assumption) ?_ rfl ?_;omega;conv=>whnf)|(refine AKM.x ?_;conv=>whnf)))
  refine OpP.sr4 (by omega) ?_
  (conv=>whnf)
  skip
  refine OpP.or4r (32-s) f2 f1 (by omega) ?_
  (conv=>whnf)
  (repeat' (first|(refine Req.go ?_ ?_;omega;conv=>whnf)|fail))
  refine StR.dig (by omega) ?_
  (conv=>whnf)
  (repeat' (first|(refine OpP.nsubw ?_ ?_;omega;conv=>whnf)|(refine ConvP.u64 ?_ ?_;omega;conv=>whnf)|(refine RdP.at (by assumption) ?_ rfl ?_;omega;conv=>whnf)))
  rw[show w64s 32 s=32-s by rw[w64s_def];omega]
  refine OpP.sh8 (by omega) g4 ?_
  (conv=>whnf)
  (repeat' (first|(refine OpP.sub ?_ ?_;omega;conv=>whnf)|(refine ConvP.n32 ?_;conv=>whnf)))
  rw[lower_high (by omega)]
  refine AKM.back [] (by (conv=>whnf);exact ⟨rfl,rfl,rfl⟩) (ih n _ _ (by omega) ⟨by omega,by simpa using p2,p3.set _ (by omega),?_,?_⟩)
  ·rw[val_getD_drop hd,lower_mod (by omega)]
  ·rw[val_getD_drop (l:=o.set n (d/2^s+hi)) (d:=d/2^s+hi) (by rw[List.getElem?_set_self (by omega)]),List.drop_set_of_lt (by omega),p5,val_getD_drop hd,lower_step (by omega),←p4]
theorem len_tab : ∀ n<256,(List.replicate 1 0++List.replicate 1 1++List.replicate 2 2++List.replicate 4 3++List.replicate 8 4++List.replicate 16 5++List.replicate 32 6++List.replicate 64 7++List.replicate 128 8)[n]? = some (blen n):=by decide +kernel
theorem ev_Len32 (N:NatGLib L) (x:Nat) (hx:x<4294967296):Ev L 63 [.int .u32 (x:Int)] (.int .i64 (blen x:Int)):=by
 have hbl : ∀ y<256,blen y≤8:=fun y h=>blen_le (k:=8) h
 refine Ev.x N.math_bits_Len32 rfl rfl ?_
 (repeat' (first|(refine CmpP.go (fun hc => ?_) (fun hc => ?_)<;>first|(exfalso;omega)|(conv=>whnf))|(refine OpP.add ?_ ?_;omega;conv=>whnf)|(refine OpP.nshr16 ?_;conv=>whnf)|(refine OpP.nshr8 ?_;conv=>whnf)|(refine ConvP.n8 ?_ ?_;omega;conv=>whnf)|(refine AKM.x ?_;conv=>whnf)))
 ·have hb8:=hbl (x/65536/256) (by omega)
  refine TbP.go (len_tab _ (by omega)) ?_
  (conv=>whnf)
  (repeat' (first|(refine OpP.add ?_ ?_;omega;conv=>whnf)|(refine ConvP.i64 ?_ ?_;omega;conv=>whnf)))
  have h1:blen (x/65536)+16=blen x:=blen_div 16 (x:=x) (by omega)
  have h2:blen (x/65536/256)+8=blen (x/65536):=blen_div 8 (x:=x/65536) (by omega)
  refine FinP.i ?_
  rw[←h1,←h2]
  omega
 ·have hb8:=hbl (x/65536) (by omega)
  refine TbP.go (len_tab _ (by omega)) ?_
  (conv=>whnf)
  (repeat' (first|(refine OpP.add ?_ ?_;omega;conv=>whnf)|(refine ConvP.i64 ?_ ?_;omega;conv=>whnf)))
  have h1:blen (x/65536)+16=blen x:=blen_div 16 (x:=x) (by omega)
  refine FinP.i ?_
  rw[←h1]
  omega
 ·have hb8:=hbl (x/256) (by omega)
  refine TbP.go (len_tab _ (by omega)) ?_
  (conv=>whnf)
  (repeat' (first|(refine OpP.add ?_ ?_;omega;conv=>whnf)|(refine ConvP.i64 ?_ ?_;omega;conv=>whnf)))
  have h2:blen (x/256)+8=blen x:=blen_div 8 (x:=x) (by omega)
  refine FinP.i ?_
  rw[←h2]
  omega
 ·have hb8:=hbl (x) (by omega)
  refine TbP.go (len_tab _ (by omega)) ?_
  (conv=>whnf)
  (repeat' (first|(refine OpP.add ?_ ?_;omega;conv=>whnf)|(refine ConvP.i64 ?_ ?_;omega;conv=>whnf)))
  refine FinP.i ?_
  omega
theorem ev_LZ32 (N:NatGLib L) (x:Nat) (hx:x<4294967296):Ev L 64 [.int .u32 (x:Int)] (.int .i64 ((32-blen x:Nat):Int)):=by
 have h:=blen_le (k:=32) hx
 refine Ev.x N.math_bits_LeadingZeros32 rfl rfl ?_
 (repeat' (first|(refine OpP.sub ?_ ?_;omega;conv=>whnf)|(refine AKM.x ?_;conv=>whnf)|(refine CallP.go (ev_Len32 N x hx) ?_;conv=>whnf)))
 refine FinP.i ?_
 omega
end Go.Eng

namespace Go.Eng
def LSg (a b c d:Int):Prop:=(0≤a∧b≤0∧c≤0∧0≤d)∨(a≤0∧0≤b∧0≤c∧d≤0)
structure LInv (P Q a b c d p q:Int):Prop where
 hp:p=a*P+b*Q
 hq:q=c*P+d*Q
 sg:LSg a b c d
 pa:0≤p+a
 pb:0≤p+b
 qc:0≤q+c
 qd:0≤q+d
theorem LInv.start {P Q:Int} (hP:0≤P) (hQ:0≤Q):LInv P Q 1 0 0 1 P Q :=
 ⟨by omega,by omega,Or.inl (by omega),by omega,by omega,by omega,by omega⟩
def LGood (P Q a b c d:Int):Prop := ∀ x y K e1 e2:Int,0<K→x=K*P+e1→y=K*Q+e2→0≤e1→e1≤K→0≤e2→e2≤K →
 0≤c*x+d*y∧c*x+d*y<a*x+b*y∧a*x+b*y≤y∧Int.gcd (a*x+b*y) (c*x+d*y)=Int.gcd x y
def LHalf (P Q a b c d:Int):Prop := ∀ x y K e1 e2:Int,0<K→x=K*P+e1→y=K*Q+e2→0≤e1→e1≤K→0≤e2→e2≤K →
 c*x+d*y≤y∧Int.gcd (a*x+b*y) (c*x+d*y)=Int.gcd x y
theorem LHalf.start (P Q:Int):LHalf P Q 1 0 0 1:=by
 intro x y K e1 e2 _ _ _ _ _ _ _
 simp
theorem LGood.half {P Q a b c d:Int} (h:LGood P Q a b c d):LHalf P Q a b c d:=fun x y K e1 e2 h1 h2 h3 h4 h5 h6 h7=>by
 obtain ⟨g1,g2,g3,g4⟩:=h x y K e1 e2 h1 h2 h3 h4 h5 h6 h7
 exact ⟨by omega,g4⟩
theorem gcd_step (X Y f:Int):Int.gcd Y (X-f*Y)=Int.gcd X Y:=by
 rw[Int.gcd_comm X Y]
 exact Int.gcd_sub_mul_right_right Y X f
theorem LInv.step {P Q a b c d p q f:Int} (h:LInv P Q a b c d p q) (hc:q+c≠0) (hd:q+d≠0) (h1:f=(p+a)/(q+c)) (h2:f=(p+b)/(q+d)) :
  LInv P Q c d (a-f*c) (b-f*d) q (p-f*q)∧0≤f∧p-f*q<q∧(LHalf P Q a b c d→LGood P Q c d (a-f*c) (b-f*d)):=by
 have c0:0<q+c:=by have:=h.qc;omega
 have d0:0<q+d:=by have:=h.qd;omega
 have f0:0≤f:=by rw[h1];exact Int.ediv_nonneg h.pa h.qc
 have m1:p-f*q+(a-f*c)=(p+a)%(q+c):=by
  have:=Int.emod_add_mul_ediv (p+a) (q+c)
  rw[←h1]at this
  grind
 have m2:p-f*q+(b-f*d)=(p+b)%(q+d):=by
  have:=Int.emod_add_mul_ediv (p+b) (q+d)
  rw[←h2]at this
  grind
 have n1:0≤p-f*q+(a-f*c):=by rw[m1];exact Int.emod_nonneg _ hc
 have n2:0≤p-f*q+(b-f*d):=by rw[m2];exact Int.emod_nonneg _ hd
 have n3:p-f*q+(a-f*c)<q+c:=by rw[m1];exact Int.emod_lt_of_pos _ c0
 have n4:p-f*q+(b-f*d)<q+d:=by rw[m2];exact Int.emod_lt_of_pos _ d0
 have hq':p-f*q=(a-f*c)*P+(b-f*d)*Q:=by rw[h.hp,h.hq];grind
 have hsg:LSg c d (a-f*c) (b-f*d):=by
  rcases h.sg with ⟨s1,s2,s3,s4⟩|⟨s1,s2,s3,s4⟩
  ·have t1:f*c≤0:=Int.mul_nonpos_of_nonneg_of_nonpos f0 s3
   have t2:0≤f*d:=Int.mul_nonneg f0 s4
   exact Or.inr (by omega)
  ·have t1:0≤f*c:=Int.mul_nonneg f0 s3
   have t2:f*d≤0:=Int.mul_nonpos_of_nonneg_of_nonpos f0 s4
   exact Or.inl (by omega)
 have hlt:p-f*q<q:=by
  rcases hsg with ⟨s1,s2,s3,s4⟩|⟨s1,s2,s3,s4⟩
  ·omega
  ·omega
 refine ⟨⟨h.hq,hq',hsg,h.qc,h.qd,n1,n2⟩,f0,hlt,fun hh => ?_⟩
 intro x y K e1 e2 hK hx hy a1 a2 b1 b2
 obtain ⟨k1,k2⟩:=hh x y K e1 e2 hK hx hy a1 a2 b1 b2
 have eY:c*x+d*y=K*q+c*e1+d*e2:=by rw[hx,hy,h.hq];grind
 have eX:(a-f*c)*x+(b-f*d)*y=K*(p-f*q)+(a-f*c)*e1+(b-f*d)*e2:=by rw[hx,hy,hq'];grind
 have eS:(a-f*c)*x+(b-f*d)*y=(a*x+b*y)-f*(c*x+d*y):=by grind
 generalize hE:a-f*c=E at *
 generalize hG:b-f*d=G at *
 generalize hq2:p-f*q=q2 at *
 have key:0≤E*x+G*y∧E*x+G*y<c*x+d*y:=by
  rw[eX,eY]
  rcases hsg with ⟨s1,s2,s3,s4⟩|⟨s1,s2,s3,s4⟩
  ·-- c≥0,d≤0,E≤0,G≥0
   have t1:E*K≤E*e1:=Int.mul_le_mul_of_nonpos_left s3 a2
   have t2:0≤G*e2:=Int.mul_nonneg s4 b1
   have t3:0≤K*(q2+E):=Int.mul_nonneg (by omega) n1
   have t4:(G-d)*e2≤(G-d)*K:=Int.mul_le_mul_of_nonneg_left b2 (by omega)
   have t5:(E-c)*e1≤0:=Int.mul_nonpos_of_nonpos_of_nonneg (by omega) a1
   have t6:0<K*((q+d)-(q2+G)):=Int.mul_pos hK (by omega)
   constructor
   ·grind
   ·grind
  ·have t1:G*K≤G*e2:=Int.mul_le_mul_of_nonpos_left s4 b2
   have t2:0≤E*e1:=Int.mul_nonneg s3 a1
   have t3:0≤K*(q2+G):=Int.mul_nonneg (by omega) n2
   have t4:(E-c)*e1≤(E-c)*K:=Int.mul_le_mul_of_nonneg_left a2 (by omega)
   have t5:(G-d)*e2≤0:=Int.mul_nonpos_of_nonpos_of_nonneg (by omega) b1
   have t6:0<K*((q+c)-(q2+E)):=Int.mul_pos hK (by omega)
   constructor
   ·grind
   ·grind
 refine ⟨key.1,key.2,k1,?_⟩
 rw[←k2,eS]
 exact gcd_step _ _ _
end Go.Eng

namespace Go.Eng
theorem win_get {A w C:List Nat} {i n:Nat} (hi:i=A.length+n) (hn:n<w.length):(A++w++C)[i]? = w[n]? := by
 subst hi
 rw[List.append_assoc,List.getElem?_append_right (by omega),Nat.add_sub_cancel_left,List.getElem?_append_left hn]
theorem win_set {A w C:List Nat} {i n v:Nat} (hi:i=A.length+n) (hn:n<w.length):(A++w++C).set i v=A++w.set n v++C:=by
 subst hi
 rw[List.append_assoc,List.set_append_right _ _ (by omega),Nat.add_sub_cancel_left,List.set_append_left _ _ hn,List.append_assoc]
theorem LdR.win {A w C:List Nat} {i:Nat} {K:List AV→Prop} (n:Nat) (hi:i=A.length+n) (hD:Dig w) (hn:n<w.length) (h : ∀ e,w[n]? = some e→e<4294967296→K (e32 e)):LdR ((A++w++C).map e32) i 0 1 K:=by
 obtain ⟨e,he⟩ : ∃ e,w[n]? = some e:=⟨_,zE hn⟩
 refine LdR.at (e:=e) (by rw[win_get hi hn];exact he) rfl (h e he (hD.at he))
theorem StR.win {A w C:List Nat} {i v:Nat} {KK:List (List AV)→Prop} (n:Nat) (hi:i=A.length+n) (hn:n<w.length) (h:KK ((A++w.set n v++C).map e32)):StR ((A++w++C).map e32) i 0 [.int .u32 (v:Int)] KK:=by
 have hl:i<(A++w++C).length:=by simp;omega
 refine StR.at (enc:=e32) i v rfl rfl (fun _=>rfl) hl ?_
 rw[win_set hi hn]
 exact h
theorem ms_step {W X Vi p q u d c b pr t:Nat} (h:W+q*Vi=X+p*(c+b)) (hpr:pr=q*d+c) (ht:t=w64s (w64s u (pr%4294967296)) b) (hu:u<4294967296) (hb:b≤1) :
  W+p*(t%4294967296)+q*(Vi+p*d)=X+p*u+p*4294967296*(pr/4294967296+t/9223372036854775808):=by
 obtain ⟨h1,_⟩:=sub_step hu (show pr%4294967296<4294967296 by omega) hb
 rw[←ht]at h1
 have h2:=Nat.mod_add_div pr 4294967296
 generalize t%4294967296=w at *
 generalize t/9223372036854775808=b' at *
 generalize pr%4294967296=pl at *
 generalize pr/4294967296=ph at *
 have e1:p*(w+pl+b)=p*(u+4294967296*b'):=by rw[h1]
 have e2:p*(pl+4294967296*ph)=p*(q*d+c):=by rw[h2,hpr]
 grind
theorem ms_carry {q d c pr:Nat} (hq:q<4294967296) (hd:d<4294967296) (hc:c<4294967296) (hpr:pr=q*d+c):pr/4294967296<4294967296∧pr≤18446744073709551615∧q*d≤18446744065119617025:=by
 have:=mul_le_dig hq hd
 omega
theorem ms_last {W X V p q u c b t:Nat} (h:W+q*V=X+p*(c+b)) (ht:t=w64s (w64s u c) b) (hu:u<4294967296) (hc:c<4294967296) (hb:b≤1) :
  W+p*(t%4294967296)+q*V=X+p*u+p*4294967296*(t/9223372036854775808):=by
 obtain ⟨h1,_⟩:=sub_step hu hc hb
 rw[←ht]at h1
 generalize t%4294967296=w at *
 generalize t/9223372036854775808=b' at *
 have e1:p*(w+c+b)=p*(u+4294967296*b'):=by rw[h1]
 grind
theorem ms_step2 {W X Vi p q u d c b pr w take have' bw':Nat} (h:W+q*Vi=X+p*(c+b)) (hpr:pr=c+q*d) (h1:take=pr%4294967296+b) (h2:(have'=u∧bw'=0∧take≤u)∨(have'=u+4294967296∧bw'=1∧u<take)) (h3:w+take=have') :
  W+p*w+q*(Vi+p*d)=X+p*u+p*4294967296*(pr/4294967296+bw'):=by
 have h4:=Nat.mod_add_div pr 4294967296
 have h5:w+pr%4294967296+b=u+4294967296*bw':=by omega
 generalize pr%4294967296=pl at *
 generalize pr/4294967296=ph at *
 have e1:p*(w+pl+b)=p*(u+4294967296*bw'):=by rw[h5]
 have e2:p*(pl+4294967296*ph)=p*(c+q*d):=by rw[h4,hpr]
 grind
theorem ms_last2 {W X V p q u c b w take have' bw':Nat} (h:W+q*V=X+p*(c+b)) (h1:take=c+b) (h2:(have'=u∧bw'=0∧take≤u)∨(have'=u+4294967296∧bw'=1∧u<take)) (h3:w+take=have') :
  W+p*w+q*V=X+p*u+p*4294967296*bw':=by
 have h5:w+c+b=u+4294967296*bw':=by omega
 have e1:p*(w+c+b)=p*(u+4294967296*bw'):=by rw[h5]
 grind
theorem ab_step {W X Vi p w d c t:Nat} (h:W+p*c=X+Vi) (ht:t=w+d+c):W+p*(t%4294967296)+p*4294967296*(t/4294967296)=X+p*w+(Vi+p*d):=by
 have h1:=carry_step W p t
 have e:p*t=p*w+p*d+p*c:=by rw[ht];grind
 omega
theorem ab_last {W X V R p w c:Nat} (h:W+p*c=X+V) (hX:X+p*w+V=R+p*4294967296) (hR:R<p*4294967296) (hW:W<p):W+p*((w+c)%4294967296)=R:=by
 have h1:W+p*(w+c)=R+p*4294967296:=by
  rw[Nat.mul_add];omega
 have h2:=Nat.mod_add_div (w+c) 4294967296
 have h3:p*(w+c)=p*((w+c)%4294967296)+p*4294967296*((w+c)/4294967296):=by
  rw[Nat.mul_assoc,←Nat.mul_add,h2]
 have h4:(w+c)%4294967296<4294967296:=Nat.mod_lt _ (by omega)
 generalize (w+c)%4294967296=m at *
 generalize (w+c)/4294967296=k at *
 have h5:W+p*m<p*4294967296:=by
  have:p*m+p≤p*4294967296:=by rw[←Nat.mul_succ];exact Nat.mul_le_mul_left p (by omega)
  omega
 have h6:k=1:=by
  rcases Nat.lt_trichotomy k 1 with hk|hk|hk
  ·have:k=0:=by omega
   subst this
   omega
  ·exact hk
  ·have:p*4294967296*2≤p*4294967296*k:=Nat.mul_le_mul_left _ (by omega)
   omega
 subst h6
 omega
theorem top_small {U V UL VL p u2 v2 v1 top:Nat} (hU:U=UL+p*(u2+4294967296*top)) (hV:V=VL+p*(v2+4294967296*v1)) (hVl:VL<p) (h2:v2<4294967296) (h:U<4294967296*V):top<4294967296*(v1+1):=by
 have h3:V<p*(4294967296*(v1+1)):=by
  have:p*(v2+4294967296*v1)+p≤p*(4294967296*(v1+1)):=by
   rw[←Nat.mul_succ];exact Nat.mul_le_mul_left p (by omega)
  omega
 have h4:p*(4294967296*top)≤U:=by
  have:p*(4294967296*top)≤p*(u2+4294967296*top):=Nat.mul_le_mul_left p (by omega)
  omega
 have h5:p*(4294967296*top)<p*(4294967296*(4294967296*(v1+1))):=by
  have:p*(4294967296*(4294967296*(v1+1)))=4294967296*(p*(4294967296*(v1+1))):=by grind
  omega
 have:=Nat.lt_of_mul_lt_mul_left h5
 omega
structure Gs (U V v1 v2 u2 top q r:Nat):Prop where
 hq:q*v1+r=top
 hr:r<4294967296
 ge:U/V≤q
theorem Gs.next {U V UL VL p v1 v2 u2 top q r:Nat} (g:Gs U V v1 v2 u2 top q r) (hU:U=UL+p*(u2+4294967296*top)) (hV:V=VL+p*(v2+4294967296*v1)) (hUl:UL<p) (hV0:0<V) (hUV:U<4294967296*V)
  (h:4294967296≤q∨r*4294967296+u2<q*v2):1≤q∧(q-1)*v1+(r+v1)=top∧U/V≤q-1:=by
 have h1:U/V<q:=by
  rcases h with h|h
  ·exact guess_big hUV h hV0
  ·exact guess_dec hU hV hUl g.hq h hV0
 have hq:=g.hq
 clear h g hU hV hUV
 generalize U/V=Q at *
 obtain ⟨k,rfl⟩ : ∃ k,q=k+1:=⟨q-1,by omega⟩
 refine ⟨by omega,?_,by omega⟩
 rw[Nat.add_sub_cancel,←hq,Nat.add_mul]
 omega
theorem Gs.start {U V UL VL p v1 v2 u2 top:Nat} (hU:U=UL+p*(u2+4294967296*top)) (hV:V=VL+p*(v2+4294967296*v1)) (hUl:UL<p) (h2:u2<4294967296) (hV0:0<V) (h1:0<v1) (h1b:v1<4294967296):Gs U V v1 v2 u2 top (top/v1) (top%v1):=by
 refine ⟨by rw[Nat.mul_comm];exact Nat.div_add_mod _ _,?_,?_⟩
 ·have:=Nat.mod_lt top h1
  omega
 ·rw[Nat.le_div_iff_mul_le h1]
  exact guess_top hU hV hUl h2 hV0
theorem guess_stop {U V UL VL p v1 v2 u2 top q r:Nat} (hU:U=UL+p*(u2+4294967296*top)) (hV:V=VL+p*(v2+4294967296*v1)) (hVl:VL<p) (hv1:2147483648≤v1) (hv2:v2<4294967296) (hUV:U<4294967296*V) (hq:q*v1+r=top)
  (h:(q<4294967296∧q*v2≤r*4294967296+u2)∨4294967296≤r):q<4294967296∧q≤U/V+1:=by
 rcases h with ⟨h1,h2⟩|h
 ·exact ⟨h1,guess_end hU hV hVl hv1 hq h2 h1⟩
 ·have ht:=top_small hU hV hVl hv2 hUV
  have hqb:q<4294967296:=by
   have h3:q*v1<4294967296*v1:=by omega
   exact Nat.lt_of_mul_lt_mul_right h3
  refine ⟨hqb,guess_end hU hV hVl hv1 hq ?_ hqb⟩
  have:=mul_le_dig hqb hv2
  omega
theorem val_splitD (a:List Nat) (k:Nat):val a=val (a.take k)+4294967296^k*val (a.drop k):=by
 rcases Nat.lt_or_ge a.length k with h|h
 ·rw[List.take_of_length_le (by omega),List.drop_of_length_le (by omega),val_nil];omega
 ·exact val_split a k h
theorem val_dropD (a:List Nat) (k:Nat):val (a.drop k)=a.getD k 0+4294967296*val (a.drop (k+1)):=by
 rcases Nat.lt_or_ge k a.length with h|h
 ·rw[val_getD_drop (zE h),List.getD_eq_getElem?_getD,zE h];rfl
 ·rw[List.drop_of_length_le h,List.drop_of_length_le (by omega),List.getD_eq_getElem?_getD,List.getElem?_eq_none h];rfl
theorem getD_lt {a:List Nat} (h:Dig a) (k:Nat):a.getD k 0<4294967296:=by
 rw[List.getD_eq_getElem?_getD]
 cases e:a[k]? with
 | none=>simp
 | some d=>simpa using h.at e
theorem getD_some {a:List Nat} {k d:Nat} (h:a[k]? = some d):d=a.getD k 0:=by rw[List.getD_eq_getElem?_getD,h];rfl
theorem getD_none {a:List Nat} {k:Nat} (h:a.length≤k):0=a.getD k 0:=by rw[List.getD_eq_getElem?_getD,List.getElem?_eq_none h];rfl
theorem val_top3 {a:List Nat} (hD:Dig a) {n:Nat} (hn:3≤n) (hl:a.length≤n) : ∃ r,r<4294967296^(n-3)∧val a=r+4294967296^(n-3)*(a.getD (n-3) 0+4294967296*(a.getD (n-2) 0+4294967296*a.getD (n-1) 0)):=by
 refine ⟨val (a.take (n-3)),?_,?_⟩
 ·refine Nat.lt_of_lt_of_le (val_lt (hD.take _)) (Nat.pow_le_pow_right (by omega) ?_)
  rw[List.length_take];omega
 ·have h1:=val_splitD a (n-3)
  have h2:=val_dropD a (n-3)
  have h3:=val_dropD a (n-3+1)
  have h4:=val_dropD a (n-3+1+1)
  rw[List.drop_of_length_le (show a.length≤n-3+1+1+1 by omega),val_nil]at h4
  rw[show n-3+1=n-2 by omega]at *
  rw[show n-2+1=n-1 by omega]at *
  rw[h4,Nat.mul_zero,Nat.add_zero]at h3
  rw[h3]at h2
  rw[h2]at h1
  exact h1
theorem val_top2 {a:List Nat} (hD:Dig a) {n:Nat} (hn:2≤n) (hl:a.length≤n) : ∃ r,r<4294967296^(n-2)∧val a=r+4294967296^(n-2)*(a.getD (n-2) 0+4294967296*a.getD (n-1) 0):=by
 refine ⟨val (a.take (n-2)),?_,?_⟩
 ·refine Nat.lt_of_lt_of_le (val_lt (hD.take _)) (Nat.pow_le_pow_right (by omega) ?_)
  rw[List.length_take];omega
 ·have h1:=val_splitD a (n-2)
  have h2:=val_dropD a (n-2)
  have h3:=val_dropD a (n-2+1)
  rw[List.drop_of_length_le (show a.length≤n-2+1+1 by omega),val_nil]at h3
  rw[show n-2+1=n-1 by omega]at *
  rw[h3,Nat.mul_zero,Nat.add_zero]at h2
  rw[h2]at h1
  exact h1
theorem dg_len_mono {a b:Nat} (h:a≤b):(dg a).length≤(dg b).length:=by
 rcases Nat.lt_or_ge (dg b).length (dg a).length with h1|h1
 ·have:=val_lt_of_len h1;omega
 ·exact h1
theorem dg2 {p:Nat} (h:p<18446744073709551616):val [p%4294967296,p/4294967296]=p∧Dig [p%4294967296,p/4294967296]:=by
 refine ⟨by simp [val];omega,fun x hx => ?_⟩
 simp at hx
 omega
theorem getD_is {a:List Nat} {k d:Nat} (h:a[k]? = some d):a.getD k 0=d:=(getD_some h).symm
theorem lift_norm {y:List Nat} {s yt:Nat} (hD:Dig y) (hyt:y[y.length-1]? = some yt) (hl:1≤y.length) (hs:s≤31) (b3:2147483648≤yt*2^s) (b4:yt*2^s<4294967296):val y*2^s<4294967296^y.length∧4294967296^(y.length-1)*2147483648≤val y*2^s:=by
 have h1:=val_split y (y.length-1) (by omega)
 have h2:=val_getD_drop hyt
 rw[List.drop_of_length_le (show y.length≤y.length-1+1 by omega),val_nil,Nat.mul_zero,Nat.add_zero]at h2
 rw[h2]at h1
 have h3:=val_lt (hD.take (y.length-1))
 rw[List.length_take,Nat.min_eq_left (by omega)]at h3
 have e:4294967296^y.length=4294967296^(y.length-1)*4294967296:=by rw[←Nat.pow_succ,Nat.succ_eq_add_one,show y.length-1+1=y.length by omega]
 rw[e]
 generalize 4294967296^(y.length-1)=p at *
 have hk:(yt+1)*2^s≤4294967296:=by
  have e2:4294967296=2^s*2^(32-s):=by rw[←Nat.pow_add,show s+(32-s)=32 by omega]
  rw[e2,Nat.mul_comm]at b4
  have:=Nat.lt_of_mul_lt_mul_left b4
  rw[e2,Nat.mul_comm]
  exact Nat.mul_le_mul_left _ this
 have h4:val y+1≤p*(yt+1):=by rw[Nat.mul_add];omega
 have h5:=Nat.mul_le_mul_right (2^s) h4
 have h6:p*((yt+1)*2^s)≤p*4294967296:=Nat.mul_le_mul_left p hk
 rw[←Nat.mul_assoc]at h6
 have h7:p*2147483648≤p*(yt*2^s):=Nat.mul_le_mul_left p b3
 have h8:p*(yt*2^s)≤val y*2^s:=by rw[←Nat.mul_assoc];exact Nat.mul_le_mul_right _ (by omega)
 have h9:=Nat.two_pow_pos s
 rw[Nat.add_mul]at h5
 exact ⟨by omega,by omega⟩
theorem top_ge {v:List Nat} {k c d:Nat} (hD:Dig v) (hl:v.length=k+1) (h:4294967296^k*c≤val v) (hd:v[k]? = some d):c≤d:=by
 have h1:=val_split v k (by omega)
 have h2:=val_getD_drop hd
 rw[List.drop_of_length_le (show v.length≤k+1 by omega),val_nil,Nat.mul_zero,Nat.add_zero]at h2
 rw[h2]at h1
 have h3:=val_lt (hD.take k)
 rw[List.length_take,Nat.min_eq_left (by omega)]at h3
 generalize 4294967296^k=p at *
 have h4:p*c<p*(d+1):=by rw[Nat.mul_add];omega
 have:=Nat.lt_of_mul_lt_mul_left h4
 omega
theorem dv_cut (o:List Nat) (j n:Nat) (h:j+n≤o.length) : ∃ A W C,A.length=j∧W.length=n∧o=A++W++C:=by
 refine ⟨o.take j,(o.drop j).take n,(o.drop j).drop n,by simp;omega,by simp;omega,?_⟩
 rw[List.append_assoc,List.take_append_drop,List.take_append_drop]
theorem dig_win {A W C:List Nat} (h:Dig (A++W++C)):Dig A∧Dig W∧Dig C:=by
 refine ⟨fun x hx=>h x (by simp [hx]),fun x hx=>h x (by simp [hx]),fun x hx=>h x (by simp [hx])⟩
theorem dv_pre {A W C:List Nat} {j l V:Nat} (hA:A.length=j) (hW:W.length=l+1) (hD:Dig (A++W++C)) (h:val ((A++W++C).drop (j+1))<V) (hV:V<4294967296^l) :
  val C=0∧val W<4294967296*V∧val ((A++W++C).take (j+1))+4294967296^(j+1)*val ((A++W++C).drop (j+1))=val A+4294967296^j*val W:=by
 have h1:=val_splitD (A++W++C) (j+1)
 have h2:val (A++W++C)=val A+4294967296^j*(val W+4294967296^(l+1)*val C):=by
  rw[List.append_assoc,val_append,val_append,hA,hW]
 have h3:=val_dropD (A++W++C) j
 have h4:(A++W++C).drop j=W++C:=by
  rw[List.append_assoc,List.drop_append_of_le_length (by omega),List.drop_of_length_le (by omega)];rfl
 have h5:=getD_lt hD j
 rw[h4,val_append,hW]at h3
 rw[Nat.pow_succ]at h3
 have h6:val C=0:=by
  rcases Nat.eq_zero_or_pos (val C) with h0|h0
  ·exact h0
  ·have:4294967296^l*4294967296*1≤4294967296^l*4294967296*val C:=Nat.mul_le_mul_left _ h0
   omega
 rw[h6,Nat.mul_zero,Nat.add_zero]at h3
 refine ⟨h6,by omega,?_⟩
 rw[←h1,h2,h6,Nat.mul_zero,Nat.add_zero]
theorem dv_post {A W C:List Nat} {j:Nat} (hA:A.length=j) (hC:val C=0):val ((A++W++C).drop j)=val W∧val ((A++W++C).take j)=val A:=by
 rw[List.append_assoc,List.drop_append_of_le_length (by omega),List.drop_of_length_le (by omega),List.take_append_of_le_length (by omega),List.take_of_length_le (by omega),List.nil_append,val_append,hC]
 simp
theorem dv_next {U VA P Q q V W R:Nat} (h:U=VA+P*W+P*4294967296*(Q*V)) (h2:W=q*V+R):U=VA+P*((q+4294967296*Q)*V+R):=by
 rw[h,h2];grind
theorem AKM.join2 {α β:Type} {L:Lib} {k:List It} {tm:Tm} {M:Mem} {Q:Tm→Mem→Prop} (k':List It) (P:α→β→Prop) (vs:α→β→Tm) (Ms:α→β→Mem) (ts:List Nat) (h1:(∀ a b,P a b→AKM L k' (vs a b++tdel ts tm) (Ms a b++M) Q)→AKM L k tm M Q) (h2 : ∀ a b,P a b→AKM L k' (vs a b++tdel ts tm) (Ms a b++M) Q):AKM L k tm M Q:=h1 h2
section
variable {a b:Nat} {K:AV→Prop}
theorem OpP.nor8 (n:Nat) (hx:a%2^n=0) (hy:b<2^n) (h:a+b≤18446744073709551615) (hk:K (.int .u64 ((a+b:Nat):Int))):OpP .or .u64 (a:Int) .u64 (b:Int) K :=
 OpP.norv n hx hy (show a+b<18446744073709551616 by omega) (IntWalk.u64_in _ (by omega)) hk
theorem OpP.nor8r (n:Nat) (hx:b%2^n=0) (hy:a<2^n) (h:a+b≤18446744073709551615) (hk:K (.int .u64 ((a+b:Nat):Int))):OpP .or .u64 (a:Int) .u64 (b:Int) K:=by
 have e:intBin .or .u64 (a:Int) .u64 (b:Int)=intBin .or .u64 (b:Int) .u64 (a:Int):=by
  simp only[intBin,if_true,BitVec.or_comm]
 rw[Nat.add_comm]at hk h
 have hh:=OpP.nor8 (K:=K) n hx hy h hk
 unfold OpP at hh ⊢
 rw[e]
 exact hh
end
theorem OpP.naddB {a:Nat} {K:AV→Prop} (h:a≤18446744069414584319) (hk:K (.int .u64 ((a+4294967296:Nat):Int))):OpP .add .u64 (a:Int) .u64 4294967296 K :=
 OpP.nadd (b:=4294967296) (by omega) hk
theorem LdR.dat {l:List Nat} {i e:Nat} {K:List AV→Prop} (he:l[i]? = some e) (h:K (e32 e)):LdR (l.map e32) (0+((i:Int)).toNat) 0 1 K :=
 LdR.at (e:=e) (by rw[Nat.zero_add,Int.toNat_natCast];exact he) rfl h
theorem LdR.dai {l:List Nat} {i:Int} {e:Nat} {K:List AV→Prop} (he:l[i.toNat]? = some e) (h:K (e32 e)):LdR (l.map e32) (0+i.toNat) 0 1 K :=
 LdR.at (e:=e) (by rw[Nat.zero_add];exact he) rfl h
theorem LdR.winat {A w C:List Nat} {i e:Nat} {K:List AV→Prop} (n:Nat) (he:w[n]? = some e) (hi:i=A.length+n) (h:K (e32 e)):LdR ((A++w++C).map e32) i 0 1 K:=by
 have hn:=(zS he).1
 exact LdR.at (e:=e) (by rw[win_get hi hn];exact he) rfl h
end Go.Eng

namespace Go.Eng
def leadK (n s:Nat):Nat:=4294967296^(n-3)*(2^(32-s)*4)
theorem leadK_pos (n s:Nat):0<leadK n s:=Nat.mul_pos (Nat.pow_pos (by omega)) (Nat.mul_pos (Nat.two_pow_pos _) (by omega))
theorem lead_eq {a:List Nat} (hD:Dig a) {n s d1 d2 d3:Nat} (hn:3≤n) (hl:a.length≤n) (hs:s≤31) (h1:d1=a.getD (n-1) 0) (h2:d2=a.getD (n-2) 0) (h3:d3=a.getD (n-3) 0) :
  ((d1*4294967296+d2)*2^s+d3*2^s/4294967296)/4=val a/leadK n s:=by
 obtain ⟨r,hr,hv⟩:=val_top3 hD hn hl
 rw[←h1,←h2,←h3]at hv
 unfold leadK
 rw[hv,←Nat.div_div_eq_div_mul,Nat.add_mul_div_left _ _ (Nat.pow_pos (by omega)),Nat.div_eq_of_lt hr,Nat.zero_add,←Nat.div_div_eq_div_mul]
 congr 1
 have e:d3+4294967296*(d2+4294967296*d1)=d3+2^(32-s)*(2^s*(d1*4294967296+d2)):=by
  rw[←Nat.mul_assoc,←Nat.pow_add,show 32-s+s=32 by omega];omega
 rw[e,Nat.add_mul_div_left _ _ (Nat.two_pow_pos _)]
 have:=shHi_eq (d:=d3) (s:=s) (by omega)
 rw[shHi_def]at this
 rw[this,Nat.mul_comm (2^s)]
 omega
theorem lead_fits {a:List Nat} (hD:Dig a) {n s d1 d2:Nat} (hn:3≤n) (hl:a.length≤n) (h1:d1=a.getD (n-1) 0) (h2:d2=a.getD (n-2) 0) (hlt:val a*2^s<4294967296^n) :
  (d1*4294967296+d2)*2^s≤18446744073709551615:=by
 obtain ⟨r,hr,hv⟩:=val_top3 hD hn hl
 rw[←h1,←h2]at hv
 generalize a.getD (n-3) 0=d3 at *
 have e:4294967296^n=4294967296^(n-3)*(4294967296*18446744073709551616):=by
  rw[show n=n-3+3 by omega,Nat.pow_add,show n-3+3-3=n-3 by omega]
 rw[e,hv]at hlt
 generalize 4294967296^(n-3)=p at *
 have h3:p*(4294967296*((d1*4294967296+d2)*2^s))<p*(4294967296*18446744073709551616):=by
  refine Nat.lt_of_le_of_lt ?_ hlt
  rw[←Nat.mul_assoc,←Nat.mul_assoc]
  refine Nat.mul_le_mul_right _ ?_
  have h5:p*(4294967296*(d2+4294967296*d1))≤p*(d3+4294967296*(d2+4294967296*d1)):=Nat.mul_le_mul_left p (by omega)
  rw[Nat.mul_assoc,show d1*4294967296+d2=d2+4294967296*d1 by omega]
  omega
 have:=Nat.lt_of_mul_lt_mul_left (Nat.lt_of_mul_lt_mul_left h3)
 omega
theorem mul_room {k s:Nat} (hs:s≤64) (h:k*2^s≤18446744073709551615):k*2^s+2^s≤18446744073709551616:=by
 have e:18446744073709551616=2^(64-s)*2^s:=by rw[←Nat.pow_add,show 64-s+s=64 by omega]
 have h1:k<2^(64-s):=by
  refine Nat.lt_of_mul_lt_mul_right (a:=2^s) ?_
  rw[←e];omega
 have h2:=Nat.mul_le_mul_right (2^s) h1
 rw[Nat.succ_mul,←e]at h2
 exact h2
theorem lead_le {a:List Nat} (hD:Dig a) {n s:Nat} (hn:3≤n) (hl:a.length≤n) (hs:s≤31) (hlt:val a*2^s<4294967296^n):val a/leadK n s≤4611686018427387904:=by
 rw[←lead_eq hD hn hl hs rfl rfl rfl]
 have h1:=lead_fits hD hn hl rfl rfl hlt
 have b3:=getD_lt hD (n-3)
 have h2:=mul_room (show s≤64 by omega) h1
 obtain ⟨_,h3,_,_⟩:=sh_facts (s:=s) b3 (by omega)
 rw[shHi_def]at h3
 generalize (a.getD (n-1) 0*4294967296+a.getD (n-2) 0)*2^s=T at *
 generalize a.getD (n-3) 0*2^s=U at *
 omega
theorem lead_part {V K:Nat} (hK:0<K) : ∃ e:Int,(V:Int)=(K:Int)*((V/K:Nat):Int)+e∧0≤e∧e≤K:=by
 refine ⟨((V%K:Nat):Int),?_,by omega,?_⟩
 ·have:=Nat.div_add_mod V K
  have h2:((K*(V/K)+V%K:Nat):Int)=(V:Int):=by rw[this]
  rw[←h2];simp
 ·have:=Nat.mod_lt V hK
  omega
def cmD (t:Int):Nat:=(t%4294967296).toNat
theorem cmD_lt (t:Int):cmD t<4294967296:=by unfold cmD;omega
theorem cmD_eq (t:Int):(cmD t:Int)=t%4294967296:=by unfold cmD;omega
def CSg (f g:Int):Prop:=(0≤f∧f≤2147483647 ∧ -2147483647≤g∧g≤0)∨(-2147483647≤f∧f≤0∧0≤g∧g≤2147483647)
theorem sgn_mul {f:Int} {d:Nat} (hd:d<4294967296):(0≤f→f≤2147483647→0≤f*d∧f*d≤9223372030412324865)∧(f≤0 → -2147483647≤f→f*d≤0 ∧ -9223372030412324865≤f*d):=by
 constructor
 ·intro h0 h1
  refine ⟨Int.mul_nonneg h0 (by omega),?_⟩
  have:f*d≤2147483647*4294967295:=Int.mul_le_mul h1 (by omega) (by omega) (by omega)
  omega
 ·intro h0 h1
  have a1:0≤(-f)*d:=Int.mul_nonneg (by omega) (by omega)
  have a2:(-f)*d≤2147483647*4294967295:=Int.mul_le_mul (by omega) (by omega) (by omega) (by omega)
  rw[Int.neg_mul]at a1 a2
  omega
theorem CSg.rng {f g:Int} (h:CSg f g) {d e:Nat} (hd:d<4294967296) (he:e<4294967296):(-9223372030412324865≤f*d∧f*d≤9223372030412324865)∧(-9223372030412324865≤g*e∧g*e≤9223372030412324865) ∧ -9223372030412324865≤f*d+g*e∧f*d+g*e≤9223372030412324865:=by
 obtain ⟨a1,a2⟩:=sgn_mul (f:=f) hd
 obtain ⟨b1,b2⟩:=sgn_mul (f:=g) he
 rcases h with ⟨h1,h2,h3,h4⟩|⟨h1,h2,h3,h4⟩
 ·have:=a1 h1 h2;have:=b2 h4 h3;omega
 ·have:=a2 h2 h1;have:=b1 h3 h4;omega
theorem cm_step {V X Y p c f g d e t:Int} (h:V+p*c=f*X+g*Y) (ht:t=f*d+c+g*e):V+p*(t%4294967296)+p*4294967296*(t/4294967296)=f*(X+p*d)+g*(Y+p*e):=by
 have h1:=Int.emod_add_mul_ediv t 4294967296
 have h2:p*(t%4294967296)+p*4294967296*(t/4294967296)=p*t:=by
  rw[Int.mul_assoc,←Int.mul_add,h1]
 have h3:p*t=f*(p*d)+p*c+g*(p*e):=by rw[ht];grind
 have h4:f*(X+p*d)=f*X+f*(p*d):=by rw[Int.mul_add]
 have h5:g*(Y+p*e)=g*Y+g*(p*e):=by rw[Int.mul_add]
 omega
theorem cm_end {V P:Nat} {c R:Int} (hV:V<P) (h:(V:Int)+P*c=R) (h0:0≤R) (h1:R<P):(V:Int)=R:=by
 have hc:c=0:=by
  rcases Int.lt_trichotomy c 0 with hc|hc|hc
  ·have:(P:Int)*c≤P*(-1):=Int.mul_le_mul_of_nonneg_left (by omega) (by omega)
   omega
  ·exact hc
  ·have:(P:Int)*1≤P*c:=Int.mul_le_mul_of_nonneg_left (by omega) (by omega)
   omega
 subst hc
 omega
theorem gcd_mod_step (x y:Nat):Nat.gcd y (x%y)=Nat.gcd x y:=by
 rw[Nat.gcd_comm x y,Nat.gcd_rec y x];exact Nat.gcd_comm _ _
end Go.Eng

namespace Go.Eng
open F
attribute [local irreducible] AKM CmpP Req OpP UnP ConvP RdP LdR StR MkR LenP AppR AppN CpyR RowP SnR Bds SlS CallP CalP FinP pw LdM GetM SetM PutM MkM AppM SnM FlP CallR
set_option maxHeartbeats 4000000
variable {L:Lib}
theorem cl_sl (l:List Nat):Clean (.sl false (l.map e32)):=by
 simp only[Clean,true_and];exact cl_dig l
theorem apX_rw {M:Mem} {v:AV} {ky t z off len s:Nat} {l:List Nat} (hv:v = .row ky t z off len) (h:mget M ky=some (s,.rw 1 (l.map e32))):apX M v=none:=by
 subst hv
 unfold apX
 split
 ·rename_i e
  simp only[AV.row.injEq]at e
  obtain ⟨rfl,_⟩:=e
  rw[h]
  cases l with
  | nil=>rfl
  | cons a l=>cases l<;>rfl
 ·rfl
theorem ev_r1_Trim (N:RefGLib L) (l:List Nat) (q:Bool) (hD:Dig l) (hl:l.length≤1099511627776):Ev L 101 [.sl q (l.map e32)] (.sl false ((dg (val l)).map e32)):=by
 refine Ev.x N.ref01_Trim rfl rfl ?_
 (repeat' (first|(refine LenP.go ?_;conv=>whnf)|(refine AKM.x ?_;conv=>whnf)))
 refine AKM.loop1 (fun n=>n) (fun (n:Nat)=>n≤l.length ∧ ∀ i,n≤i→i<l.length→l[i]? = some 0) (fun n=>[(3,.int .i64 n)]) (fun _=>[]) [] [] l.length (by (conv=>whnf);exact ⟨rfl,rfl,rfl⟩) ⟨Nat.le_refl _,fun i h1 h2=>by omega⟩ ?_
 intro n ⟨p1,p2⟩ ih
 rcases n with _|n
 ·have hv:=cut_found hD p1 p2 (Or.inl rfl)
  rw[←hv]
  clear ih
  (repeat' (first|(refine CmpP.go (fun hc => ?_) (fun hc => ?_)<;>first|(exfalso;omega)|(conv=>whnf))|(refine AKM.x ?_;conv=>whnf)))
  refine SlS.to (k:=0) (fun _=>rfl) (by omega) ?_
  (conv=>whnf)
  refine AppN.many (enc:=e32) (fun _=>rfl) (by rw[List.length_take];omega) (by rw[List.length_take];omega) ?_
  (conv=>whnf)
  (repeat' (refine SnR.all (fun _=>rfl) rfl ?_ ?_;(first|rfl|simp);conv=>whnf))
  exact FinP.go rfl (cl_sl _)
 ·have e1:((n+1:Nat):Int)-1=n:=by omega
  (repeat' (first|(refine CmpP.go (fun hc => ?_) (fun hc => ?_)<;>first|(exfalso;omega)|(conv=>whnf))|(refine OpP.sub ?_ ?_;omega;conv=>whnf)|(refine RdP.digi (by assumption) ?_ (fun e he hb => ?_);omega;conv=>whnf)|(refine AKM.x ?_;conv=>whnf)))
  ·rw[e1]
   exact AKM.back [] (by (conv=>whnf);exact ⟨rfl,rfl,rfl⟩) (ih n (by omega) ⟨by omega,fun i h1 h2=>by
    by_cases h:i=n
    ·subst h
     rw[e1,Int.toNat_natCast]at he
     rw[he];congr 1;omega
    ·exact p2 i (by omega) h2⟩)
  ·rw[e1,Int.toNat_natCast]at he
   have hv:=cut_found hD p1 p2 (Or.inr ⟨e,he,by omega⟩)
   rw[←hv]
   clear ih
   refine SlS.to (k:=n+1) (fun _=>rfl) (by omega) ?_
   (conv=>whnf)
   refine AppN.many (enc:=e32) (fun _=>rfl) (by rw[List.length_take];omega) (by rw[List.length_take];omega) ?_
   (conv=>whnf)
   (repeat' (refine SnR.all (fun _=>rfl) rfl ?_ ?_;(first|rfl|simp);conv=>whnf))
   exact FinP.go rfl (cl_sl _)
theorem ev_r1_Compare (N:RefGLib L) (a b:List Nat) (q1 q2:Bool) (hA:Dig a) (hB:Dig b) (la:a.length≤1099511627776) (lb:b.length≤1099511627776):Ev L 102 [.sl q1 (a.map e32),.sl q2 (b.map e32)] (.int .i64 (cmpS (val a) (val b))):=by
 have t1:=fun q=>ev_r1_Trim N a q hA la
 have t2:=fun q=>ev_r1_Trim N b q hB lb
 have l1:=dg_len_val hA
 have l2:=dg_len_val hB
 have d1:=dig_dg (val a)
 have d2:=dig_dg (val b)
 refine Ev.x N.ref01_Compare rfl rfl ?_
 by_cases hlen:(dg (val a)).length=(dg (val b)).length
 ·have v1:=val_dg (val a)
  have v2:=val_dg (val b)
  generalize dg (val a)=X at *
  generalize dg (val b)=Y at *
  (repeat' (first|(refine CmpP.go (fun hc => ?_) (fun hc => ?_)<;>first|(exfalso;omega)|(conv=>whnf))|(refine OpP.sub ?_ ?_;omega;conv=>whnf)|(refine LenP.go ?_;conv=>whnf)|(refine AKM.x ?_;conv=>whnf)|(refine CallP.go (t1 _) ?_;conv=>whnf)|(refine CallP.go (t2 _) ?_;conv=>whnf)))
  refine AKM.loop1 (fun n=>n) (fun (n:Nat)=>n≤X.length∧X.drop n=Y.drop n) (fun n=>[(5,.int .i64 ((n:Int)-1))]) (fun _=>[]) [] [] X.length (by (conv=>whnf);exact ⟨rfl,rfl,rfl⟩) ⟨Nat.le_refl _,by rw[List.drop_of_length_le (Nat.le_refl _),List.drop_of_length_le (by omega)]⟩ ?_
  intro n ⟨p1,p2⟩ ih
  rcases n with _|n
  ·(repeat' (first|(refine CmpP.go (fun hc => ?_) (fun hc => ?_)<;>first|(exfalso;omega)|(conv=>whnf))|(refine AKM.x ?_;conv=>whnf)))
   rw[List.drop_zero,List.drop_zero]at p2
   exact FinP.i (cmpS_eq (by rw[←v1,←v2,p2]))
  ·have e1:((n+1:Nat):Int)-1=n:=by omega
   rw[e1]
   obtain ⟨x,hx⟩ : ∃ x,X[n]? = some x:=⟨_,zE (by omega)⟩
   obtain ⟨y,hy⟩ : ∃ y,Y[n]? = some y:=⟨_,zE (by omega)⟩
   rcases Nat.lt_trichotomy x y with h|h|h
   ·have:=val_lt_of_drop d1 d2 hlen hx hy p2 h
    (repeat' (first|(refine CmpP.go (fun hc => ?_) (fun hc => ?_)<;>first|(exfalso;omega)|(conv=>whnf))|(refine RdP.at (by assumption) ?_ rfl ?_;omega;conv=>whnf)|(refine AKM.x ?_;conv=>whnf)))
    exact FinP.i (cmpS_lt (by omega))
   ·subst h
    (repeat' (first|(refine CmpP.go (fun hc => ?_) (fun hc => ?_)<;>first|(exfalso;omega)|(conv=>whnf))|(refine OpP.sub ?_ ?_;omega;conv=>whnf)|(refine RdP.at (by assumption) ?_ rfl ?_;omega;conv=>whnf)|(refine AKM.x ?_;conv=>whnf)))
    refine AKM.back [] (by (conv=>whnf);exact ⟨rfl,rfl,rfl⟩) (ih n (by omega) ⟨by omega,?_⟩)
    obtain ⟨i1,e1⟩:=zS hx
    obtain ⟨i2,e2⟩:=zS hy
    rw[List.drop_eq_getElem_cons i1,List.drop_eq_getElem_cons i2,p2,e1,e2]
   ·have:=val_lt_of_drop d2 d1 hlen.symm hy hx p2.symm h
    (repeat' (first|(refine CmpP.go (fun hc => ?_) (fun hc => ?_)<;>first|(exfalso;omega)|(conv=>whnf))|(refine RdP.at (by assumption) ?_ rfl ?_;omega;conv=>whnf)|(refine AKM.x ?_;conv=>whnf)))
    exact FinP.i (cmpS_gt (by omega))
 ·rcases Nat.lt_trichotomy (dg (val a)).length (dg (val b)).length with h1|h1|h1
  ·have:=val_lt_of_len h1
   (repeat' (first|(refine CmpP.go (fun hc => ?_) (fun hc => ?_)<;>first|(exfalso;omega)|(conv=>whnf))|(refine LenP.go ?_;conv=>whnf)|(refine AKM.x ?_;conv=>whnf)|(refine CallP.go (t1 _) ?_;conv=>whnf)|(refine CallP.go (t2 _) ?_;conv=>whnf)))
   exact FinP.i (cmpS_lt (by omega))
  ·exact absurd h1 hlen
  ·have:=val_lt_of_len h1
   (repeat' (first|(refine CmpP.go (fun hc => ?_) (fun hc => ?_)<;>first|(exfalso;omega)|(conv=>whnf))|(refine LenP.go ?_;conv=>whnf)|(refine AKM.x ?_;conv=>whnf)|(refine CallP.go (t1 _) ?_;conv=>whnf)|(refine CallP.go (t2 _) ?_;conv=>whnf)))
   exact FinP.i (cmpS_gt (by omega))
theorem val_take_get {y:List Nat} (i:Nat):val (y.take (i+1))=val (y.take i)+4294967296^i*y.getD i 0:=by
 rcases Nat.lt_or_ge i y.length with h|h
 ·rw[val_take_succ (zE h),getD_is (zE h)]
 ·rw[←getD_none h,val_take_all h,val_take_all (by omega)];omega
theorem ev_r1_Add (N:RefGLib L) (a b:List Nat) (q1 q2:Bool) (hA:Dig a) (hB:Dig b) (la:a.length≤549755813888) (lb:b.length≤549755813888):Ev L 103 [.sl q1 (a.map e32),.sl q2 (b.map e32)] (.sl false ((dg (val a+val b)).map e32)):=by
 refine Ev.x N.ref01_Add rfl rfl ?_
 (repeat' (refine AKM.x ?_;conv=>whnf))
 refine AKM.loop3 (fun i _ _=>a.length+b.length-i) (fun (i:Nat) (o:List Nat) (c:Nat)=>(i≤a.length∨i≤b.length)∧o.length=i∧Dig o∧c≤1∧val o+4294967296^i*c=val (a.take i)+val (b.take i)) (fun i o c=>[(7,.int .i64 i),(6,.int .u64 (c:Int)),(5,.row 5 0 1 0 o.length)]) (fun i o c=>[(5,5,.rw 1 (o.map e32))]) [] [] 0 [] 0 (by (conv=>whnf);exact ⟨rfl,rfl,rfl⟩) ⟨by omega,rfl,dig_nil,by omega,by simp [val]⟩ ?_
 intro i o c ⟨p1,p2,p3,p4,p5⟩ ih
 by_cases hi:i<a.length∨i<b.length
 ·have g1:=val_take_get (y:=a) i
  have g2:=val_take_get (y:=b) i
  have k1:=getD_lt hA i
  have k2:=getD_lt hB i
  have hst : ∀ t,t=c+a.getD i 0+b.getD i 0→val (o++[t%4294967296])+4294967296^(i+1)*(t/4294967296)=val (a.take (i+1))+val (b.take (i+1)):=fun t ht=>by
   have h3:=carry_step (val o) (4294967296^i) t
   rw[val_snoc,p2,g1,g2,Nat.pow_succ]
   rw[h3,ht,Nat.mul_add,Nat.mul_add]
   omega
  by_cases h1:i<a.length
  ·obtain ⟨x,hx⟩ : ∃ x,a[i]? = some x:=⟨_,zE h1⟩
   have hxb:=hA.at hx
   rw[getD_is hx]at hst
   by_cases h2:i<b.length
   ·obtain ⟨y,hy⟩ : ∃ y,b[i]? = some y:=⟨_,zE h2⟩
    have hyb:=hB.at hy
    rw[getD_is hy]at hst
    (repeat' (first|(refine CmpP.go (fun hc => ?_) (fun hc => ?_)<;>first|(exfalso;omega)|(conv=>whnf))|(refine OpP.nadd ?_ ?_;omega;conv=>whnf)|(refine ConvP.u64 ?_ ?_;omega;conv=>whnf)|(refine ConvP.n32 ?_;conv=>whnf)|(refine LenP.go ?_;conv=>whnf)|(refine RdP.at (by assumption) ?_ rfl ?_;omega;conv=>whnf)|(refine RowP.e1 ?_;conv=>whnf)|(refine AKM.x ?_;conv=>whnf)))
    refine AppR.one (enc:=e32) (((c+x+y)%4294967296:Nat)) rfl rfl rfl (by omega) (by omega) ?_
    (conv=>whnf)
    (repeat' (first|(refine OpP.add ?_ ?_;omega;conv=>whnf)|(refine OpP.nshr32 ?_;conv=>whnf)))
    refine AKM.back [(5,46)] (by (conv=>whnf);exact ⟨rfl,rfl,rfl⟩) (ih (i+1) (o++[(c+x+y)%4294967296]) ((c+x+y)/4294967296) (by omega) ⟨by omega,by simp;omega,p3.append (dig_one (by omega)),by omega,?_⟩)
    exact hst (c+x+y) (by omega)
   ·rw[←getD_none (show b.length≤i by omega)]at hst
    (repeat' (first|(refine CmpP.go (fun hc => ?_) (fun hc => ?_)<;>first|(exfalso;omega)|(conv=>whnf))|(refine OpP.nadd ?_ ?_;omega;conv=>whnf)|(refine ConvP.u64 ?_ ?_;omega;conv=>whnf)|(refine ConvP.n32 ?_;conv=>whnf)|(refine LenP.go ?_;conv=>whnf)|(refine RdP.at (by assumption) ?_ rfl ?_;omega;conv=>whnf)|(refine RowP.e1 ?_;conv=>whnf)|(refine AKM.x ?_;conv=>whnf)))
    refine AppR.one (enc:=e32) (((c+x)%4294967296:Nat)) rfl rfl rfl (by omega) (by omega) ?_
    (conv=>whnf)
    (repeat' (first|(refine OpP.add ?_ ?_;omega;conv=>whnf)|(refine OpP.nshr32 ?_;conv=>whnf)))
    refine AKM.back [(5,46)] (by (conv=>whnf);exact ⟨rfl,rfl,rfl⟩) (ih (i+1) (o++[(c+x)%4294967296]) ((c+x)/4294967296) (by omega) ⟨by omega,by simp;omega,p3.append (dig_one (by omega)),by omega,?_⟩)
    exact hst (c+x) (by omega)
  ·obtain ⟨y,hy⟩ : ∃ y,b[i]? = some y:=⟨_,zE (by omega)⟩
   have hyb:=hB.at hy
   rw[getD_is hy,←getD_none (show a.length≤i by omega)]at hst
   (repeat' (first|(refine CmpP.go (fun hc => ?_) (fun hc => ?_)<;>first|(exfalso;omega)|(conv=>whnf))|(refine OpP.nadd ?_ ?_;omega;conv=>whnf)|(refine ConvP.u64 ?_ ?_;omega;conv=>whnf)|(refine ConvP.n32 ?_;conv=>whnf)|(refine LenP.go ?_;conv=>whnf)|(refine RdP.at (by assumption) ?_ rfl ?_;omega;conv=>whnf)|(refine RowP.e1 ?_;conv=>whnf)|(refine AKM.x ?_;conv=>whnf)))
   refine AppR.one (enc:=e32) (((c+y)%4294967296:Nat)) rfl rfl rfl (by omega) (by omega) ?_
   (conv=>whnf)
   (repeat' (first|(refine OpP.add ?_ ?_;omega;conv=>whnf)|(refine OpP.nshr32 ?_;conv=>whnf)))
   refine AKM.back [(5,46)] (by (conv=>whnf);exact ⟨rfl,rfl,rfl⟩) (ih (i+1) (o++[(c+y)%4294967296]) ((c+y)/4294967296) (by omega) ⟨by omega,by simp;omega,p3.append (dig_one (by omega)),by omega,?_⟩)
   exact hst (c+y) (by omega)
 ·clear ih
  have hv:val (o++[c])=val a+val b:=by
   rw[val_take_all (by omega),val_take_all (by omega)]at p5
   rw[val_snoc,p2,p5]
  have hT:=fun q=>ev_r1_Trim N (o++[c]) q (p3.append (dig_one (by omega))) (by simp;omega)
  rw[hv]at hT
  (repeat' (first|(refine CmpP.go (fun hc => ?_) (fun hc => ?_)<;>first|(exfalso;omega)|(conv=>whnf))|(refine ConvP.n32i ?_ ?_;omega;conv=>whnf)|(refine LenP.go ?_;conv=>whnf)|(refine RowP.e1 ?_;conv=>whnf)|(refine AKM.x ?_;conv=>whnf)))
  refine AppR.one (enc:=e32) c rfl rfl rfl (by omega) (by omega) ?_
  (conv=>whnf)
  (repeat' (first|(refine SnR.all (fun _=>rfl) rfl ?_ ?_;(first|rfl|simp);conv=>whnf)|(refine CallP.go (hT _) ?_;conv=>whnf)))
  exact FinP.go rfl (cl_sl _)
theorem cmpS_ge {a b:Nat} (h:b≤a):0≤cmpS a b:=by unfold cmpS;split<;>(try split)<;>omega
theorem rsub_step {V Y X p d e bw have' take w bw':Nat} (h:V+Y=X+p*bw) (h1:take=bw+e) (h2:(have'=d∧bw'=0∧take≤d)∨(have'=d+4294967296∧bw'=1∧d<take)) (h3:w+take=have'):V+p*w+(Y+p*e)=X+p*d+p*4294967296*bw':=by
 have h4:w+bw+e=d+4294967296*bw':=by omega
 have h5:p*(w+bw+e)=p*(d+4294967296*bw'):=by rw[h4]
 rw[Nat.mul_add,Nat.mul_add,Nat.mul_add,←Nat.mul_assoc]at h5
 omega
theorem r1_sub_main (N:RefGLib L) (x y:List Nat) (hX:Dig x) (hY:Dig y) (lx:x.length≤549755813888) (ly:y.length≤549755813888) (hle:val y≤val x) :
  AKM L [It.lp ref01_Sub.l1,It.blk 0,It.code (((ACode.ops ref01_Sub.r18 false).dr [1,5,6,7,21,53,54] []).seq ACode.ret)]
  [(7,AV.int IntKind.i64 0),(6,AV.int IntKind.u64 0),(5,AV.row 101021 0 1 0 x.length),(1,AV.sl false (List.map e32 y))]
  [(101021,101021,Cel.rw 1 (List.map e32 x))]
  (RetX ref01_Sub (AV.sl false (List.map e32 (dg (val x-val y))))):=by
 refine AKM.loop3 (fun i _ _=>x.length-i) (fun (i:Nat) (o:List Nat) (bw:Nat)=>i≤x.length∧o.length=x.length∧Dig o∧bw≤1∧o.drop i=x.drop i∧val (o.take i)+val (y.take i)=val (x.take i)+4294967296^i*bw) (fun i o bw=>[(7,.int .i64 i),(6,.int .u64 (bw:Int))]) (fun i o bw=>[(101021,101021,.rw 1 (o.map e32))]) [] [] 0 x 0 (by (conv=>whnf);exact ⟨rfl,rfl,rfl⟩) ⟨by omega,rfl,hX,by omega,rfl,by simp [val]⟩ ?_
 intro i o bw ⟨p1,p2,p3,p4,p5,p6⟩ ih
 by_cases hi:i<x.length
 ·obtain ⟨d,hd⟩ : ∃ d,o[i]? = some d:=⟨_,zE (by omega)⟩
  have hdb:=p3.at hd
  have hxi:x[i]? = some d:=by
   have e1:(o.drop i)[0]? = (x.drop i)[0]? := by rw[p5]
   simpa [hd] using e1.symm
  have g1:=val_take_succ hxi
  have g2:=val_take_get (y:=y) i
  have ge:=getD_lt hY i
  have hst : ∀ have' take w bw',take=bw+y.getD i 0→((have'=d∧bw'=0∧take≤d)∨(have'=d+4294967296∧bw'=1∧d<take))→w+take=have'→val ((o.set i w).take (i+1))+val (y.take (i+1))=val (x.take (i+1))+4294967296^(i+1)*bw':=fun have' take w bw' a1 a2 a3=>by
   rw[val_set_take (by omega),g1,g2,Nat.pow_succ]
   exact rsub_step p6 a1 a2 a3
  have hdr : ∀ w,(o.set i w).drop (i+1)=x.drop (i+1):=fun w=>by
   rw[List.drop_set_of_lt (by omega)]
   have e1:(o.drop i).drop 1=(x.drop i).drop 1:=by rw[p5]
   simpa using e1
  by_cases hy:i<y.length
  ·obtain ⟨e,he⟩ : ∃ e,y[i]? = some e:=⟨_,zE hy⟩
   have heb:=hY.at he
   rw[getD_is he]at hst
   by_cases hlt:d<bw+e
   ·have h3:=hst (d+4294967296) (bw+e) (d+4294967296-(bw+e)) 1 (by omega) (Or.inr ⟨rfl,rfl,hlt⟩) (by omega)
    (repeat' (first|(refine CmpP.go (fun hc => ?_) (fun hc => ?_)<;>first|(exfalso;omega)|(conv=>whnf))|(refine Req.go ?_ ?_;omega;conv=>whnf)|(refine OpP.nadd ?_ ?_;omega;conv=>whnf)|(refine OpP.nsub ?_ ?_ ?_;omega;omega;conv=>whnf)|(refine OpP.naddB ?_ ?_;omega;conv=>whnf)|(refine ConvP.u64 ?_ ?_;omega;conv=>whnf)|(refine ConvP.n32i ?_ ?_;omega;conv=>whnf)|(refine LenP.go ?_;conv=>whnf)|(refine RdP.at (by assumption) ?_ rfl ?_;omega;conv=>whnf)|(refine LdR.dat (by assumption) ?_;conv=>whnf)|(refine AKM.x ?_;conv=>whnf)))
    refine StR.dig (by omega) ?_
    (conv=>whnf)
    (repeat' (refine OpP.add ?_ ?_;omega;conv=>whnf))
    exact AKM.back [] (by (conv=>whnf);exact ⟨rfl,rfl,rfl⟩) (ih (i+1) (o.set i (d+4294967296-(bw+e))) 1 (by omega) ⟨by omega,by simpa using p2,p3.set _ (by omega),by omega,hdr _,h3⟩)
   ·have h3:=hst d (bw+e) (d-(bw+e)) 0 (by omega) (Or.inl ⟨rfl,rfl,by omega⟩) (by omega)
    (repeat' (first|(refine CmpP.go (fun hc => ?_) (fun hc => ?_)<;>first|(exfalso;omega)|(conv=>whnf))|(refine Req.go ?_ ?_;omega;conv=>whnf)|(refine OpP.nadd ?_ ?_;omega;conv=>whnf)|(refine OpP.nsub ?_ ?_ ?_;omega;omega;conv=>whnf)|(refine ConvP.u64 ?_ ?_;omega;conv=>whnf)|(refine ConvP.n32i ?_ ?_;omega;conv=>whnf)|(refine LenP.go ?_;conv=>whnf)|(refine RdP.at (by assumption) ?_ rfl ?_;omega;conv=>whnf)|(refine LdR.dat (by assumption) ?_;conv=>whnf)|(refine AKM.x ?_;conv=>whnf)))
    refine StR.dig (by omega) ?_
    (conv=>whnf)
    (repeat' (refine OpP.add ?_ ?_;omega;conv=>whnf))
    exact AKM.back [] (by (conv=>whnf);exact ⟨rfl,rfl,rfl⟩) (ih (i+1) (o.set i (d-(bw+e))) 0 (by omega) ⟨by omega,by simpa using p2,p3.set _ (by omega),by omega,hdr _,h3⟩)
  ·rw[←getD_none (show y.length≤i by omega)]at hst
   by_cases hlt:d<bw
   ·have h3:=hst (d+4294967296) (bw) (d+4294967296-(bw)) 1 (by omega) (Or.inr ⟨rfl,rfl,hlt⟩) (by omega)
    (repeat' (first|(refine CmpP.go (fun hc => ?_) (fun hc => ?_)<;>first|(exfalso;omega)|(conv=>whnf))|(refine Req.go ?_ ?_;omega;conv=>whnf)|(refine OpP.nsub ?_ ?_ ?_;omega;omega;conv=>whnf)|(refine OpP.naddB ?_ ?_;omega;conv=>whnf)|(refine ConvP.u64 ?_ ?_;omega;conv=>whnf)|(refine ConvP.n32i ?_ ?_;omega;conv=>whnf)|(refine LenP.go ?_;conv=>whnf)|(refine LdR.dat (by assumption) ?_;conv=>whnf)|(refine AKM.x ?_;conv=>whnf)))
    refine StR.dig (by omega) ?_
    (conv=>whnf)
    (repeat' (refine OpP.add ?_ ?_;omega;conv=>whnf))
    exact AKM.back [] (by (conv=>whnf);exact ⟨rfl,rfl,rfl⟩) (ih (i+1) (o.set i (d+4294967296-(bw))) 1 (by omega) ⟨by omega,by simpa using p2,p3.set _ (by omega),by omega,hdr _,h3⟩)
   ·have h3:=hst d (bw) (d-(bw)) 0 (by omega) (Or.inl ⟨rfl,rfl,by omega⟩) (by omega)
    (repeat' (first|(refine CmpP.go (fun hc => ?_) (fun hc => ?_)<;>first|(exfalso;omega)|(conv=>whnf))|(refine Req.go ?_ ?_;omega;conv=>whnf)|(refine OpP.nsub ?_ ?_ ?_;omega;omega;conv=>whnf)|(refine ConvP.u64 ?_ ?_;omega;conv=>whnf)|(refine ConvP.n32i ?_ ?_;omega;conv=>whnf)|(refine LenP.go ?_;conv=>whnf)|(refine LdR.dat (by assumption) ?_;conv=>whnf)|(refine AKM.x ?_;conv=>whnf)))
    refine StR.dig (by omega) ?_
    (conv=>whnf)
    (repeat' (refine OpP.add ?_ ?_;omega;conv=>whnf))
    exact AKM.back [] (by (conv=>whnf);exact ⟨rfl,rfl,rfl⟩) (ih (i+1) (o.set i (d-(bw))) 0 (by omega) ⟨by omega,by simpa using p2,p3.set _ (by omega),by omega,hdr _,h3⟩)
 ·obtain rfl:i=x.length:=by omega
  clear ih
  rw[val_take_all (by omega),val_take_all (Nat.le_refl _)]at p6
  have h1:=val_lt p3
  rw[p2]at h1
  have h2:val (y.take x.length)≤val y:=by have:=val_splitD y x.length;omega
  have hb0:bw=0:=by
   rcases Nat.eq_zero_or_pos bw with h|h
   ·exact h
   ·have:bw=1:=by omega
    subst this
    omega
  subst hb0
  have hve:val (y.take x.length)=val y:=by
   have h3:=val_splitD y x.length
   rcases Nat.eq_zero_or_pos (val (y.drop x.length)) with h|h
   ·rw[h]at h3;omega
   ·have h4:4294967296^x.length*1≤4294967296^x.length*val (y.drop x.length):=Nat.mul_le_mul_left _ h
    have h5:=val_lt hX
    omega
  have hv:val o=val x-val y:=by omega
  have hT:=fun q=>ev_r1_Trim N o q p3 (by omega)
  rw[←hv,←p2]
  (repeat' (first|(refine CmpP.go (fun hc => ?_) (fun hc => ?_)<;>first|(exfalso;omega)|(conv=>whnf))|(refine SnR.all (fun _=>rfl) rfl ?_ ?_;(first|rfl|simp);conv=>whnf)|(refine AKM.x ?_;conv=>whnf)|(refine CallP.go (hT _) ?_;conv=>whnf)))
  exact FinP.go rfl (cl_sl _)
theorem ev_r1_Sub (N:RefGLib L) (a b:List Nat) (q1 q2:Bool) (hA:Dig a) (hB:Dig b) (la:a.length≤549755813888) (lb:b.length≤549755813888):Ev L 104 [.sl q1 (a.map e32),.sl q2 (b.map e32)] (.sl false ((dg (val a-val b)).map e32)):=by
 have hcmp:=fun q q'=>ev_r1_Compare N a b q q' hA hB (by omega) (by omega)
 have t2:=fun q=>ev_r1_Trim N b q hB (by omega)
 refine Ev.x N.ref01_Sub rfl rfl ?_
 by_cases hlt:val a<val b
 ·rw[←cmpS_lt (by omega)]at hcmp
  rw[show val a-val b=0 by omega,dg_zero]
  (repeat' (first|(refine CmpP.go (fun hc => ?_) (fun hc => ?_)<;>first|(exfalso;omega)|(conv=>whnf))|(refine AKM.x ?_;conv=>whnf)|(refine CallP.go (hcmp _ _) ?_;conv=>whnf)))
  exact FinP.go rfl (cl_sl [])
 ·have hge:=cmpS_ge (show val b≤val a by omega)
  generalize cmpS (val a) (val b)=cm at *
  have d2:=dig_dg (val b)
  have v2:=val_dg (val b)
  have l2:=dg_len_val hB
  rw[←v2]
  rw[←v2]at hlt
  generalize dg (val b)=y at *
  have hdg : ∀ n,a.take n=dg (val a)→val (a.take n)=val a:=fun n h=>by rw[h,val_dg]
  (repeat' (first|(refine CmpP.go (fun hc => ?_) (fun hc => ?_)<;>first|(exfalso;omega)|(conv=>whnf))|(refine AKM.x ?_;conv=>whnf)|(refine CallP.go (hcmp _ _) ?_;conv=>whnf)|(refine CallP.go (t2 _) ?_;conv=>whnf)))
  refine CalP.walk 1000 N.ref01_Trim rfl rfl ?_
  (repeat' (first|(refine LenP.go ?_;conv=>whnf)|(refine AKM.x ?_;conv=>whnf)))
  refine AKM.loop1 (fun n=>n) (fun (n:Nat)=>n≤a.length ∧ ∀ i,n≤i→i<a.length→a[i]? = some 0) (fun n=>[(3,.int .i64 n)]) (fun _=>[]) [] [] a.length (by (conv=>whnf);exact ⟨rfl,rfl,rfl⟩) ⟨Nat.le_refl _,fun i h1 h2=>by omega⟩ ?_
  intro n ⟨p1,p2⟩ ih
  rcases n with _|n
  ·have hv:=hdg _ (cut_found hA p1 p2 (Or.inl rfl))
   clear ih
   (repeat' (first|(refine CmpP.go (fun hc => ?_) (fun hc => ?_)<;>first|(exfalso;omega)|(conv=>whnf))|(refine AKM.x ?_;conv=>whnf)))
   refine SlS.to (k:=0) (fun _=>rfl) (by omega) ?_
   (conv=>whnf)
   refine AppN.many (enc:=e32) (fun _=>rfl) (by rw[List.length_take];omega) (by rw[List.length_take];omega) ?_
   (conv=>whnf)
   refine ⟨rfl,_,rfl,?_⟩
   (conv=>whnf)
   skip
   rw[←hv]
   exact AKM.back [] (by (conv=>whnf);exact ⟨rfl,rfl,rfl⟩) (r1_sub_main N (a.take 0) y (hA.take _) d2 (by simp) (by omega) (by omega))
  ·have e1:((n+1:Nat):Int)-1=n:=by omega
   (repeat' (first|(refine CmpP.go (fun hc => ?_) (fun hc => ?_)<;>first|(exfalso;omega)|(conv=>whnf))|(refine OpP.sub ?_ ?_;omega;conv=>whnf)|(refine RdP.digi (by assumption) ?_ (fun e he hb => ?_);omega;conv=>whnf)|(refine AKM.x ?_;conv=>whnf)))
   ·rw[e1]
    exact AKM.back [] (by (conv=>whnf);exact ⟨rfl,rfl,rfl⟩) (ih n (by omega) ⟨by omega,fun i h1 h2=>by
     by_cases h:i=n
     ·subst h
      rw[e1,Int.toNat_natCast]at he
      rw[he];congr 1;omega
     ·exact p2 i (by omega) h2⟩)
   ·rw[e1,Int.toNat_natCast]at he
    have hv:=hdg _ (cut_found hA p1 p2 (Or.inr ⟨_,he,by omega⟩))
    clear ih
    refine SlS.to (k:=n+1) (fun _=>rfl) (by omega) ?_
    (conv=>whnf)
    refine AppN.many (enc:=e32) (fun _=>rfl) (by rw[List.length_take];omega) (by rw[List.length_take];omega) ?_
    (conv=>whnf)
    refine ⟨rfl,_,rfl,?_⟩
    (conv=>whnf)
    skip
    rw[←hv]
    exact AKM.back [] (by (conv=>whnf);exact ⟨rfl,rfl,rfl⟩) (r1_sub_main N (a.take (n+1)) y (hA.take _) d2 (by rw[List.length_take];omega) (by omega) (by omega))
theorem ev_r1_Mul (N:RefGLib L) (x y:List Nat) (q1 q2:Bool) (hA:Dig x) (hB:Dig y) (lab:x.length+y.length≤549755813888):Ev L 105 [.sl q1 (x.map e32),.sl q2 (y.map e32)] (.sl false ((dg (val x*val y)).map e32)):=by
 refine Ev.x N.ref01_Mul rfl rfl ?_
 (repeat' (first|(refine OpP.add ?_ ?_;omega;conv=>whnf)|(refine LenP.go ?_;conv=>whnf)|(refine AKM.x ?_;conv=>whnf)))
 refine MkR.go (enc:=e32) 0 (x.length+y.length+1) rfl (by omega) (by omega) ?_
 (conv=>whnf)
 skip
 refine AKM.loop2 (fun i _=>x.length-i) (fun (i:Nat) (o:List Nat)=>i≤x.length∧o.length=x.length+y.length+1∧Dig o∧val o=val (x.take i)*val y ∧ ∀ k,i+y.length≤k→k<o.length→o[k]? = some 0) (fun i o=>[(6,.int .i64 i)]) (fun i o=>[(15,15,.rw 1 (o.map e32))]) [] [] 0 (List.replicate (x.length+y.length+1) 0) (by (conv=>whnf);exact ⟨rfl,rfl,rfl⟩) ⟨by omega,by simp,dig_zeros _,by simp [val,val_zeros],fun k h1 h2=>by simp at h2;simp [h2]⟩ ?_
 intro i O ⟨p1,p2,p3,p4,p5⟩ ih
 by_cases hi:i<x.length
 ·obtain ⟨d,hd⟩ : ∃ d,x[i]? = some d:=⟨_,zE hi⟩
  have hdb:=hA.at hd
  (repeat' (first|(refine CmpP.go (fun hc => ?_) (fun hc => ?_)<;>first|(exfalso;omega)|(conv=>whnf))|(refine LenP.go ?_;conv=>whnf)|(refine AKM.x ?_;conv=>whnf)))
  refine AKM.loop3 (fun j _ _=>y.length-j) (fun (j:Nat) (o:List Nat) (c:Nat)=>j≤y.length∧o.length=x.length+y.length+1∧Dig o∧c<4294967296∧val o+4294967296^(i+j)*c=val O+4294967296^i*(d*val (y.take j)) ∧ ∀ k,i+j≤k→o[k]? = O[k]?) (fun j o c=>[(7,.int .u64 (c:Int)),(8,.int .i64 j)]) (fun j o c=>[(15,15,.rw 1 (o.map e32))]) [] [] 0 O 0 (by (conv=>whnf);exact ⟨rfl,rfl,rfl⟩) ⟨by omega,p2,p3,by omega,by simp [val],fun _ _=>rfl⟩ ?_
  intro j o c ⟨r1,r2,r3,r4,r5,r6⟩ jh
  have e1:((i:Int)+j).toNat=i+j:=by omega
  by_cases hj:j<y.length
  ·obtain ⟨w,hw⟩ : ∃ w,y[j]? = some w:=⟨_,zE hj⟩
   have hwb:=hB.at hw
   have hm:=mul_le_dig hdb hwb
   (repeat' (first|(refine CmpP.go (fun hc => ?_) (fun hc => ?_)<;>first|(exfalso;omega)|(conv=>whnf))|(refine Req.go ?_ ?_;omega;conv=>whnf)|(refine OpP.add ?_ ?_;omega;conv=>whnf)|(refine OpP.nadd ?_ ?_;omega;conv=>whnf)|(refine OpP.nmul ?_ ?_;omega;conv=>whnf)|(refine ConvP.u64 ?_ ?_;omega;conv=>whnf)|(refine ConvP.n32 ?_;conv=>whnf)|(refine LenP.go ?_;conv=>whnf)|(refine RdP.at (by assumption) ?_ rfl ?_;omega;conv=>whnf)|(refine LdR.dig (by assumption) ?_ (fun v hv hb => ?_);omega;conv=>whnf)|(refine AKM.x ?_;conv=>whnf)))
   refine StR.digo (i+j) (by omega) (by omega) ?_
   (conv=>whnf)
   (repeat' (first|(refine OpP.add ?_ ?_;omega;conv=>whnf)|(refine OpP.nshr32 ?_;conv=>whnf)))
   refine AKM.back [] (by (conv=>whnf);exact ⟨rfl,rfl,rfl⟩) (jh (j+1) _ _ (by omega) ⟨by omega,by simpa using r2,r3.set _ (by omega),by omega,?_,?_⟩)
   ·have h1:=val_set (v:=(c+(d*w+v))%4294967296) hv
    have h2:=carry_step 0 (4294967296^(i+j)) (c+(d*w+v))
    rw[val_take_succ hw,show i+(j+1)=i+j+1 by omega,Nat.pow_succ (4294967296) (i+j)]
    have h3:4294967296^i*(d*(val (y.take j)+4294967296^j*w))=4294967296^i*(d*val (y.take j))+4294967296^(i+j)*(d*w):=by rw[Nat.pow_add];grind
    rw[h3]
    generalize 4294967296^(i+j)=P at *
    rw[Nat.mul_add P c,Nat.mul_add P]at h2
    omega
   ·intro k hk
    rw[List.getElem?_set_ne (by omega)]
    exact r6 k (by omega)
  ·obtain rfl:j=y.length:=by omega
   clear jh
   have hz:=r6 (i+y.length) (by omega)
   rw[p5 (i+y.length) (by omega) (by omega)]at hz
   (repeat' (first|(refine CmpP.go (fun hc => ?_) (fun hc => ?_)<;>first|(exfalso;omega)|(conv=>whnf))|(refine Req.go ?_ ?_;omega;conv=>whnf)|(refine OpP.add ?_ ?_;omega;conv=>whnf)|(refine ConvP.n32i ?_ ?_;omega;conv=>whnf)|(refine LenP.go ?_;conv=>whnf)|(refine AKM.x ?_;conv=>whnf)))
   refine StR.digo (i+y.length) (by omega) (by omega) ?_
   (conv=>whnf)
   (repeat' (refine OpP.add ?_ ?_;omega;conv=>whnf))
   refine AKM.back [] (by (conv=>whnf);exact ⟨rfl,rfl,rfl⟩) (ih (i+1) _ (by omega) ⟨by omega,by simpa using r2,r3.set _ (by omega),?_,?_⟩)
   ·have h1:=val_set (v:=c) hz
    rw[Nat.mul_zero,Nat.add_zero]at h1
    rw[h1,r5,p4,val_take_all (Nat.le_refl _),val_take_succ hd,Nat.add_mul,Nat.mul_assoc]
   ·intro k h1 h2
    rw[List.length_set]at h2
    rw[List.getElem?_set_ne (by omega),r6 k (by omega)]
    exact p5 k (by omega) (by omega)
 ·obtain rfl:i=x.length:=by omega
  clear ih
  rw[val_take_all (Nat.le_refl _)]at p4
  have hT:=fun q=>ev_r1_Trim N O q p3 (by omega)
  rw[p4]at hT
  rw[←p2]
  (repeat' (first|(refine CmpP.go (fun hc => ?_) (fun hc => ?_)<;>first|(exfalso;omega)|(conv=>whnf))|(refine LenP.go ?_;conv=>whnf)|(refine SnR.all (fun _=>rfl) rfl ?_ ?_;(first|rfl|simp);conv=>whnf)|(refine AKM.x ?_;conv=>whnf)|(refine CallP.go (hT _) ?_;conv=>whnf)))
  exact FinP.go rfl (cl_sl _)
end Go.Eng

namespace Go.Eng
def zv (neg:Bool) (m:List Nat):Int:=bif neg then -(val m:Int) else (val m:Int)
abbrev rZ (q neg:Bool) (m:List Nat):List AV:=[.bool neg,.sl q (m.map e32)]
abbrev eZ (z:Int):List AV:=rZ false (decide (z<0)) (dg z.natAbs)
theorem zv_abs (neg:Bool) (m:List Nat):(zv neg m).natAbs=val m:=by cases neg<;>simp [zv]
theorem zv_of (z:Int):zv (decide (z<0)) (dg z.natAbs)=z:=by
 unfold zv
 rw[val_dg]
 by_cases h:z<0
 ·simp [h];omega
 ·simp [h];omega
def Sm (n:Nat) (m:List Nat):Prop:=Dig m∧m.length≤n
theorem Sm.dg {n V:Nat} (h:V<4294967296^n):Sm n (dg V):=⟨dig_dg V,dg_len_le.2 h⟩
theorem Sm.le {n n':Nat} {m:List Nat} (h:Sm n m) (hn:n≤n'):Sm n' m:=⟨h.1,by have:=h.2;omega⟩
theorem Sm.val {n:Nat} {m:List Nat} (h:Sm n m):val m<4294967296^n:=Nat.lt_of_lt_of_le (val_lt h.1) (Nat.pow_le_pow_right (by omega) h.2)
theorem Sm.nrm {n:Nat} {m:List Nat} (h:Sm n m):Sm n (Go.Eng.dg (Go.Eng.val m)):=Sm.dg h.val
theorem agg_eZ {z:Int} {b:Bool} {n:Nat} (h1:n=z.natAbs) (h2:b=decide (z<0)):AV.agg [.bool b,.sl false ((dg n).map e32)] = .agg (eZ z):=by rw[h1,h2]
theorem cl_eZ (z:Int):Clean (.agg (eZ z)):=by
 simp only[Clean,CleanL,and_true,true_and]
 exact cl_dig _
theorem sgn_T {z:Int} (h:z<0):true=decide (z<0):=by simp [h]
theorem sgn_F {z:Int} (h:0≤z):false=decide (z<0):=by simp;omega
theorem sm_nil (n:Nat):Sm n []:=⟨dig_nil,Nat.zero_le _⟩
theorem sm_one {n d:Nat} (hn:1≤n) (hd:d<4294967296):Sm n [d]:=⟨dig_one hd,hn⟩
theorem zv_nil (b:Bool):zv b []=0:=by cases b<;>rfl
theorem Sm.low {n V:Nat} {m:List Nat} (h:Sm n m) (hV:V≤Go.Eng.val m):Sm n (Go.Eng.dg V):=Sm.dg (Nat.lt_of_le_of_lt hV h.val)
theorem Sm.mul {n k:Nat} {a b:List Nat} (ha:Sm n a) (hb:Sm k b) {V:Nat} (hV:V=Go.Eng.val a*Go.Eng.val b):Sm (n+k) (Go.Eng.dg V):=by
 refine Sm.dg ?_
 rw[hV,Nat.pow_add]
 exact Nat.mul_lt_mul_of_le_of_lt (Nat.le_of_lt ha.val) hb.val (Nat.pow_pos (by omega))
theorem Sm.add {n:Nat} {a b:List Nat} (ha:Sm n a) (hb:Sm n b) {V:Nat} (hV:V≤Go.Eng.val a+Go.Eng.val b):Sm (n+1) (Go.Eng.dg V):=by
 refine Sm.dg ?_
 have h1:=ha.val
 have h2:=hb.val
 rw[Nat.pow_succ]
 omega
theorem dg_len0 (V:Nat):(dg V).length=0↔V=0:=by rw[List.length_eq_zero_iff,dg_eq_nil]
theorem zv_F (m:List Nat):zv false m=(val m:Int):=rfl
theorem zv_T (m:List Nat):zv true m = -(val m:Int):=rfl
def sgn (z:Int):Int:=if z<0 then -1 else if 0<z then 1 else 0
theorem sgn_neg {z:Int} (h:z<0) : -1=sgn z:=by unfold sgn;rw[if_pos h]
theorem sgn_pos {z:Int} (h:0<z):1=sgn z:=by unfold sgn;rw[if_neg (by omega),if_pos h]
theorem sgn_zero {z:Int} (h:z=0):0=sgn z:=by unfold sgn;rw[if_neg (by omega),if_neg (by omega)]
theorem val_two {n:Nat} (h:n<18446744073709551616):val [n%4294967296,n/4294967296]=n:=(by simp [val];omega)
end Go.Eng

namespace Go.Eng
open F
attribute [local irreducible] AKM CmpP Req OpP UnP ConvP RdP LdR StR MkR LenP AppR AppN CpyR RowP SnR Bds SlS CallP CalP FinP pw LdM GetM SetM PutM MkM AppM SnM FlP CallR
set_option maxHeartbeats 4000000
variable {L:Lib}
theorem dg_digit {d:Nat} (h0:d≠0) (hd:d<4294967296):dg d=[d]:=by
 rw[dg_pos h0,Nat.div_eq_of_lt hd,dg_zero,Nat.mod_eq_of_lt hd]
theorem ev_r1_BitLen (N:RefGLib L) (d:Nat) (q:Bool) (h0:d≠0) (hd:d<4294967296):Ev L 106 [.sl q ([d].map e32)] (.int .i64 (blen d:Int)):=by
 have hT:=fun q=>ev_r1_Trim N [d] q (dig_one hd) (by simp)
 rw[show val [d]=d by simp [val],dg_digit h0 hd]at hT
 have hll:[d].length=1:=rfl
 have hd0:[d][(([d].length:Int)-1).toNat]? = some d:=rfl
 have hb:=blen_le (k:=32) hd
 refine Ev.x N.ref01_BitLen rfl rfl ?_
 (repeat' (first|(refine CmpP.go (fun hc => ?_) (fun hc => ?_)<;>first|(exfalso;omega)|(conv=>whnf))|(refine OpP.sub ?_ ?_;omega;conv=>whnf)|(refine OpP.mul ?_ ?_;omega;conv=>whnf)|(refine LenP.go ?_;conv=>whnf)|(refine RdP.at (by assumption) ?_ rfl ?_;omega;conv=>whnf)|(refine AKM.x ?_;conv=>whnf)|(refine CallP.go (hT _) ?_;conv=>whnf)))
 refine AKM.loop2 (fun _ x=>x) (fun (n x:Nat)=>n+blen x=blen d∧x≤d) (fun n x=>[(3,.int .i64 n),(4,.int .u32 (x:Int))]) (fun _ _=>[]) [] [] 0 d (by (conv=>whnf);exact ⟨rfl,rfl,rfl⟩) ⟨by omega,Nat.le_refl _⟩ ?_
 intro n x ⟨p1,p2⟩ ih
 by_cases hx:x=0
 ·subst hx
  have:blen 0=0:=by unfold blen;simp
  (repeat' (first|(refine CmpP.go (fun hc => ?_) (fun hc => ?_)<;>first|(exfalso;omega)|(conv=>whnf))|(refine AKM.x ?_;conv=>whnf)))
  exact FinP.i (by omega)
 ·have h1:blen (x/2)+1=blen x:=by
   by_cases h1:x=1
   ·subst h1;decide
   ·exact blen_div 1 (x:=x) (by omega)
  (repeat' (first|(refine CmpP.go (fun hc => ?_) (fun hc => ?_)<;>first|(exfalso;omega)|(conv=>whnf))|(refine OpP.add ?_ ?_;omega;conv=>whnf)|(refine OpP.nshr1 ?_;conv=>whnf)|(refine AKM.x ?_;conv=>whnf)))
  exact AKM.back [] (by (conv=>whnf);exact ⟨rfl,rfl,rfl⟩) (ih (n+1) (x/2) (by omega) ⟨by omega,by omega⟩)
theorem up_step {V P X lo s d p t:Nat} (h:V+P*p*lo=P*(X*2^s)) (ht:t=lo+d*2^s):V+P*p*(t%4294967296)+P*p*4294967296*(t/4294967296)=P*((X+p*d)*2^s):=by
 have h1:=carry_step V (P*p) t
 rw[h1,ht]
 have:P*((X+p*d)*2^s)=P*(X*2^s)+P*p*(d*2^s):=by grind
 rw[this,←h,Nat.mul_add]
 omega
theorem ev_r1_Shl (N:RefGLib L) (l:List Nat) (q:Bool) (n:Nat) (hD:Dig l) (hl:l.length≤549755813888) (hn:n≤65536):Ev L 107 [.sl q (l.map e32),.int .i64 (n:Int)] (.sl false ((dg (val l*2^n)).map e32)):=by
 have hT:=fun q=>ev_r1_Trim N l q hD (by omega)
 have d1:=dig_dg (val l)
 have v1:=val_dg (val l)
 have l1:=dg_len_val hD
 have hz:=dg_len0 (val l)
 refine Ev.x N.ref01_Shift rfl rfl ?_
 by_cases h0:val l=0
 ·rw[h0,Nat.zero_mul,dg_zero]
  (repeat' (first|(refine CmpP.go (fun hc => ?_) (fun hc => ?_)<;>first|(exfalso;omega)|(conv=>whnf))|(refine LenP.go ?_;conv=>whnf)|(refine AKM.x ?_;conv=>whnf)|(refine CallP.go (hT _) ?_;conv=>whnf)))
  exact FinP.go rfl (cl_sl [])
 rw[←v1]
 generalize dg (val l)=x at *
 have hs31:n%32<32:=Nat.mod_lt _ (by omega)
 have e1:(n:Int)/32=((n/32:Nat):Int):=by omega
 have e2:(n:Int)%32=((n%32:Nat):Int):=by omega
 (repeat' (first|(refine CmpP.go (fun hc => ?_) (fun hc => ?_)<;>first|(exfalso;omega)|(conv=>whnf))|(refine OpP.quo ?_ ?_ (fun _ => ?_) (fun _ _ => ?_);omega;omega;all_goals first|(exfalso;omega)|(conv=>whnf))|(refine LenP.go ?_;conv=>whnf)|(refine AKM.x ?_;conv=>whnf)|(refine CallP.go (hT _) ?_;conv=>whnf)))
 rw[e1]
 refine MkR.go (enc:=e32) 0 (n/32) rfl rfl (by omega) ?_
 (conv=>whnf)
 skip
 refine AKM.loop3 (fun i _ _=>x.length-i) (fun (i:Nat) (o:List Nat) (c:Nat)=>i≤x.length∧o.length=n/32+i∧Dig o∧c<2^(n%32)∧val o+4294967296^(n/32)*4294967296^i*c=4294967296^(n/32)*(val (x.take i)*2^(n%32))) (fun i o c=>[(10,.int .i64 i),(9,.int .u64 (c:Int)),(8,.row 107069 0 1 0 (n/32+i))]) (fun i o c=>[(107069,107069,.rw 1 (o.map e32))]) [] [] 0 (List.replicate (n/32) 0) 0 (by (conv=>whnf);exact ⟨rfl,rfl,rfl⟩) ⟨by omega,by simp,dig_zeros _,Nat.two_pow_pos _,by simp [val,val_zeros]⟩ ?_
 intro i o c ⟨p1,p2,p3,p4,p5⟩ ih
 have hps:=pow_s_le (s:=n%32) (by omega)
 by_cases hi:i<x.length
 ·obtain ⟨d,hd⟩ : ∃ d,x[i]? = some d:=⟨_,zE hi⟩
  have hdb:=d1.at hd
  obtain ⟨f1,f2,f3,f4⟩:=sh_facts (s:=n%32) hdb (by omega)
  have hr:=mul_room (show n%32≤64 by omega) f4
  (repeat' (first|(refine CmpP.go (fun hc => ?_) (fun hc => ?_)<;>first|(exfalso;omega)|(conv=>whnf))|(refine OpP.rem ?_ (fun _ _ _ => ?_) (fun _ _ _ _ => ?_);omega;all_goals first|(exfalso;omega)|(conv=>whnf))|(refine ConvP.u64 ?_ ?_;omega;conv=>whnf)|(refine LenP.go ?_;conv=>whnf)|(refine RdP.at (by assumption) ?_ rfl ?_;omega;conv=>whnf)|(refine AKM.x ?_;conv=>whnf)))
  rw[e2]
  refine OpP.sh8 (by omega) f4 ?_
  (conv=>whnf)
  skip
  refine OpP.nor8r (n%32) (Nat.mul_mod_left _ _) p4 (by omega) ?_
  (conv=>whnf)
  have hst:=up_step (d:=d) p5 rfl
  have hc2:(c+d*2^(n%32))/4294967296<2^(n%32):=by
   rw[Nat.div_lt_iff_lt_mul (by omega)]
   have:=Nat.mul_le_mul_right (2^(n%32)) (show d≤4294967295 by omega)
   omega
  generalize c+d*2^(n%32)=t at *
  (repeat' (first|(refine ConvP.n32 ?_;conv=>whnf)|(refine RowP.e1 ?_;conv=>whnf)))
  refine AppR.one (enc:=e32) (t%4294967296) rfl p2.symm rfl (by omega) (by omega) ?_
  (conv=>whnf)
  (repeat' (first|(refine OpP.add ?_ ?_;omega;conv=>whnf)|(refine OpP.nshr32 ?_;conv=>whnf)))
  rw[show (o++[t%4294967296]).length=n/32+(i+1) by simp [p2];omega]
  refine AKM.back [(107069,107091)] (by (conv=>whnf);exact ⟨rfl,rfl,rfl⟩) (ih (i+1) (o++[t%4294967296]) (t/4294967296) (by omega) ⟨by omega,by simp;omega,p3.append (dig_one (by omega)),hc2,?_⟩)
  rw[val_snoc,p2,val_take_succ hd,Nat.pow_add,Nat.pow_succ,←Nat.mul_assoc]
  exact hst
 ·obtain rfl:i=x.length:=by omega
  clear ih
  have hcb:c<4294967296:=by omega
  have hOD:Dig (o++[c]):=p3.append (dig_one hcb)
  have hOv:val (o++[c])=val x*2^n:=by
   rw[val_snoc,p2,Nat.pow_add,p5,val_take_all (Nat.le_refl _)]
   have e3:2^n=4294967296^(n/32)*2^(n%32):=by
    rw[show 4294967296=2^32 from rfl,←Nat.pow_mul,←Nat.pow_add]
    congr 1;omega
   rw[e3];grind
  have hOl:(o++[c]).length=n/32+x.length+1:=by simp [p2]
  (repeat' (first|(refine CmpP.go (fun hc => ?_) (fun hc => ?_)<;>first|(exfalso;omega)|(conv=>whnf))|(refine ConvP.n32i ?_ ?_;omega;conv=>whnf)|(refine LenP.go ?_;conv=>whnf)|(refine RowP.e1 ?_;conv=>whnf)|(refine AKM.x ?_;conv=>whnf)))
  refine AppR.one (enc:=e32) c rfl p2.symm rfl (by omega) (by omega) ?_
  (conv=>whnf)
  rw[←hOv,hOl]
  generalize o++[c]=O at *
  rw[←hOl]
  clear p3 p4 p5 hOv
  refine CalP.walk 1000 N.ref01_Trim rfl rfl ?_
  (repeat' (refine AKM.x ?_;conv=>whnf))
  refine AKM.loop1 (fun n=>n) (fun (n:Nat)=>n≤(O).length ∧ ∀ i,n≤i→i<(O).length→(O)[i]? = some 0) (fun n=>[(3,.int .i64 n)]) (fun _=>[]) [] [] (O).length (by (conv=>whnf);exact ⟨rfl,rfl,rfl⟩) ⟨Nat.le_refl _,fun i h1 h2=>by omega⟩ ?_
  intro n ⟨p1,p2⟩ ih
  rcases n with _|n
  ·(repeat' (first|(refine CmpP.go (fun hc => ?_) (fun hc => ?_)<;>first|(exfalso;omega)|(conv=>whnf))|(refine AKM.x ?_;conv=>whnf)))
   refine Bds.up 0 (by omega) (by omega) ?_
   (conv=>whnf)
   have hct:=cut_found (l:=O) (by assumption) p1 p2 (Or.inl rfl)
   have hcl:(List.take 0 O).length≤(O).length:=by rw[List.length_take];omega
   clear ih p2
   refine RowP.part (enc:=e32) (by omega) ?_
   (conv=>whnf)
   rw[List.drop_zero,Nat.sub_zero]
   generalize hT0:List.take 0 O=T0 at *
   refine AppN.many (enc:=e32) (fun _=>rfl) (by omega) (by omega) ?_
   (conv=>whnf)
   refine ⟨rfl,_,rfl,?_⟩
   (conv=>whnf)
   (refine SnR.all (enc:=e32) (fun _=>rfl) rfl rfl ?_;(conv=>whnf);exact FinP.go (by rw[←hct]) (cl_sl _))
  ·have e1:((n+1:Nat):Int)-1=n:=by omega
   (repeat' (first|(refine CmpP.go (fun hc => ?_) (fun hc => ?_)<;>first|(exfalso;omega)|(conv=>whnf))|(refine Req.go ?_ ?_;omega;conv=>whnf)|(refine OpP.sub ?_ ?_;omega;conv=>whnf)|(refine LdR.digi (by assumption) ?_ (fun v hv hb => ?_);omega;conv=>whnf)|(refine AKM.x ?_;conv=>whnf)))
   ·rw[e1]
    exact AKM.back [] (by (conv=>whnf);exact ⟨rfl,rfl,rfl⟩) (ih n (by omega) ⟨by omega,fun i h1 h2=>by
     by_cases h:i=n
     ·subst h
      rw[e1,Int.toNat_natCast]at hv
      rw[hv];congr 1;omega
     ·exact p2 i (by omega) h2⟩)
   ·refine Bds.up (n+1) (by omega) (by omega) ?_
    (conv=>whnf)
    rw[e1,Int.toNat_natCast]at hv
    have hct:=cut_found (l:=O) (by assumption) p1 p2 (Or.inr ⟨_,hv,by omega⟩)
    have hcl:(List.take (n+1) O).length≤(O).length:=by rw[List.length_take];omega
    clear ih p2 hv
    (rw[apX_rw (l:=O)];rotate_left;exact rfl;exact rfl);(conv=>whnf)
    refine RowP.part (enc:=e32) (by omega) ?_
    (conv=>whnf)
    rw[List.drop_zero,Nat.sub_zero]
    generalize hT0:List.take (n+1) O=T0 at *
    refine AppN.many (enc:=e32) (fun _=>rfl) (by omega) (by omega) ?_
    (conv=>whnf)
    refine ⟨rfl,_,rfl,?_⟩
    (conv=>whnf)
    (refine SnR.all (enc:=e32) (fun _=>rfl) rfl rfl ?_;(conv=>whnf);exact FinP.go (by rw[←hct]) (cl_sl _))
theorem val_drop_div {l:List Nat} (hD:Dig l) (k:Nat) (hk:k≤l.length):val (l.drop k)=val l/4294967296^k:=by
 have h1:=val_split l k hk
 have h2:=val_lt (hD.take k)
 rw[List.length_take,Nat.min_eq_left hk]at h2
 rw[h1,Nat.add_mul_div_left _ _ (Nat.pow_pos (by omega)),Nat.div_eq_of_lt h2,Nat.zero_add]
theorem pow_n32 (n:Nat):2^n=4294967296^(n/32)*2^(n%32):=by
 rw[show 4294967296=2^32 from rfl,←Nat.pow_mul,←Nat.pow_add]
 congr 1;omega
theorem down_dig {d e V r:Nat} (hd:d<4294967296) (hr:r<32):(d+e*4294967296)/2^r%4294967296+4294967296*((e+4294967296*V)/2^r)=(d+4294967296*(e+4294967296*V))/2^r:=by
 obtain ⟨f1,f2,f3⟩:=lower_facts (V:=e) hd (show r≤32 by omega)
 rw[lower_step (d:=d) (V:=e+4294967296*V) (by omega),lower_mod (d:=e) (V:=V) (by omega)]
 have h1:=lower_step (d:=d) (V:=e) (s:=r) (by omega)
 rw[show d+e*4294967296=d+4294967296*e by omega,h1]
 clear h1
 generalize d/2^r=A at *
 generalize e%2^r*2^(32-r)=Q at *
 generalize e/2^r=Z at *
 generalize 2^(32-r)=P at *
 omega
theorem ev_r1_Shr (N:RefGLib L) (l:List Nat) (q:Bool) (n:Nat) (hD:Dig l) (hl:l.length≤549755813888) (hn:1≤n∧n≤65536):Ev L 107 [.sl q (l.map e32),.int .i64 (-(n:Int))] (.sl false ((dg (val l/2^n)).map e32)):=by
 have hT:=fun q=>ev_r1_Trim N l q hD (by omega)
 have d1:=dig_dg (val l)
 have v1:=val_dg (val l)
 have l1:=dg_len_val hD
 have hz:=dg_len0 (val l)
 refine Ev.x N.ref01_Shift rfl rfl ?_
 by_cases h0:val l=0
 ·rw[h0,Nat.zero_div,dg_zero]
  (repeat' (first|(refine CmpP.go (fun hc => ?_) (fun hc => ?_)<;>first|(exfalso;omega)|(conv=>whnf))|(refine LenP.go ?_;conv=>whnf)|(refine AKM.x ?_;conv=>whnf)|(refine CallP.go (hT _) ?_;conv=>whnf)))
  exact FinP.go rfl (cl_sl [])
 rw[←v1]
 generalize dg (val l)=x at *
 have hr32:n%32<32:=Nat.mod_lt _ (by omega)
 have e1:(- -(n:Int))/32=((n/32:Nat):Int):=by omega
 have e2:(- -(n:Int))%32=((n%32:Nat):Int):=by omega
 by_cases hbig:32*x.length<n
 ·have hlt:val x/2^n=0:=by
   refine Nat.div_eq_of_lt (Nat.lt_of_lt_of_le (val_lt d1) ?_)
   rw[show 4294967296=2^32 from rfl,←Nat.pow_mul]
   exact Nat.pow_le_pow_right (by omega) (by omega)
  rw[hlt,dg_zero]
  (repeat' (first|(refine CmpP.go (fun hc => ?_) (fun hc => ?_)<;>first|(exfalso;omega)|(conv=>whnf))|(refine OpP.mul ?_ ?_;omega;conv=>whnf)|(refine LenP.go ?_;conv=>whnf)|(refine AKM.x ?_;conv=>whnf)|(refine CallP.go (hT _) ?_;conv=>whnf)))
  exact FinP.go rfl (cl_sl [])
 have hk:n/32≤x.length:=by omega
 have hvd:=val_drop_div d1 _ hk
 (repeat' (first|(refine CmpP.go (fun hc => ?_) (fun hc => ?_)<;>first|(exfalso;omega)|(conv=>whnf))|(refine OpP.mul ?_ ?_;omega;conv=>whnf)|(refine OpP.quo ?_ ?_ (fun _ => ?_) (fun _ _ => ?_);omega;omega;all_goals first|(exfalso;omega)|(conv=>whnf))|(refine UnP.neg ?_ ?_;omega;conv=>whnf)|(refine LenP.go ?_;conv=>whnf)|(refine AKM.x ?_;conv=>whnf)|(refine CallP.go (hT _) ?_;conv=>whnf)))
 rw[e1]
 refine AKM.loop2 (fun i _=>x.length-i) (fun (i:Nat) (o:List Nat)=>n/32≤i∧i≤x.length∧o.length=i-n/32∧Dig o∧val o+4294967296^(i-n/32)*(val (x.drop i)/2^(n%32))=val (x.drop (n/32))/2^(n%32)) (fun i o=>[(6,.int .i64 i),(5,.row 107005 0 1 0 o.length)]) (fun i o=>[(107005,107005,.rw 1 (o.map e32))]) [] [] (n/32) [] (by (conv=>whnf);exact ⟨rfl,rfl,rfl⟩) ⟨Nat.le_refl _,hk,by simp,dig_nil,by simp [val]⟩ ?_
 intro i o ⟨p0,p1,p2,p3,p5⟩ ih
 by_cases hi:i<x.length
 ·obtain ⟨d,hd⟩ : ∃ d,x[i]? = some d:=⟨_,zE hi⟩
  have hdb:=d1.at hd
  have g1:=val_getD_drop hd
  have g2:=val_dropD x (i+1)
  have g3:=down_dig (e:=x.getD (i+1) 0) (V:=val (x.drop (i+1+1))) hdb hr32
  rw[←g2,←g1]at g3
  have key : ∀ t,t=d+x.getD (i+1) 0*4294967296→val (o++[t/2^(n%32)%4294967296])+4294967296^(i+1-n/32)*(val (x.drop (i+1))/2^(n%32))=val (x.drop (n/32))/2^(n%32):=fun t ht=>by
   rw[val_snoc,p2,show i+1-n/32=(i-n/32)+1 by omega,Nat.pow_succ,ht,Nat.add_assoc,Nat.mul_assoc,←Nat.mul_add,g3]
   exact p5
  by_cases hy:i+1<x.length
  ·obtain ⟨e,he⟩ : ∃ e,x[i+1]? = some e:=⟨_,zE hy⟩
   have heb:=d1.at he
   have he':x[((i:Int)+1).toNat]? = some e:=by rw[show ((i:Int)+1).toNat=i+1 by omega];exact he
   rw[getD_is he]at key
   (repeat' (first|(refine CmpP.go (fun hc => ?_) (fun hc => ?_)<;>first|(exfalso;omega)|(conv=>whnf))|(refine OpP.add ?_ ?_;omega;conv=>whnf)|(refine OpP.nshl32 ?_ ?_;omega;conv=>whnf)|(refine ConvP.u64 ?_ ?_;omega;conv=>whnf)|(refine LenP.go ?_;conv=>whnf)|(refine RdP.at (by assumption) ?_ rfl ?_;omega;conv=>whnf)|(refine AKM.x ?_;conv=>whnf)))
   refine OpP.nor8r 32 (Nat.mul_mod_left _ _) (by omega) (by omega) ?_
   (conv=>whnf)
   (repeat' (first|(refine OpP.rem ?_ (fun _ _ _ => ?_) (fun _ _ _ _ => ?_);omega;all_goals first|(exfalso;omega)|(conv=>whnf))|(refine ConvP.u64 ?_ ?_;omega;conv=>whnf)))
   rw[e2]
   refine OpP.nshrv (n:=n%32) (by show n%32≤64;omega) ?_
   (conv=>whnf)
   (repeat' (first|(refine ConvP.n32 ?_;conv=>whnf)|(refine RowP.e1 ?_;conv=>whnf)))
   refine AppR.one (enc:=e32) ((d+e*4294967296)/2^(n%32)%4294967296) rfl rfl rfl (by omega) (by omega) ?_
   (conv=>whnf)
   (repeat' (refine OpP.add ?_ ?_;omega;conv=>whnf))
   exact AKM.back [(107005,107064)] (by (conv=>whnf);exact ⟨rfl,rfl,rfl⟩) (ih (i+1) (o++[(d+e*4294967296)/2^(n%32)%4294967296]) (by omega) ⟨by omega,by omega,by simp;omega,p3.append (dig_one (by omega)),key (d+e*4294967296) rfl⟩)
  ·rw[←getD_none (show x.length≤i+1 by omega),Nat.zero_mul]at key
   (repeat' (first|(refine CmpP.go (fun hc => ?_) (fun hc => ?_)<;>first|(exfalso;omega)|(conv=>whnf))|(refine OpP.add ?_ ?_;omega;conv=>whnf)|(refine OpP.rem ?_ (fun _ _ _ => ?_) (fun _ _ _ _ => ?_);omega;all_goals first|(exfalso;omega)|(conv=>whnf))|(refine ConvP.u64 ?_ ?_;omega;conv=>whnf)|(refine LenP.go ?_;conv=>whnf)|(refine RdP.at (by assumption) ?_ rfl ?_;omega;conv=>whnf)|(refine AKM.x ?_;conv=>whnf)))
   rw[e2]
   refine OpP.nshrv (n:=n%32) (by show n%32≤64;omega) ?_
   (conv=>whnf)
   (repeat' (first|(refine ConvP.n32 ?_;conv=>whnf)|(refine RowP.e1 ?_;conv=>whnf)))
   refine AppR.one (enc:=e32) (d/2^(n%32)%4294967296) rfl rfl rfl (by omega) (by omega) ?_
   (conv=>whnf)
   (repeat' (refine OpP.add ?_ ?_;omega;conv=>whnf))
   exact AKM.back [(107005,107064)] (by (conv=>whnf);exact ⟨rfl,rfl,rfl⟩) (ih (i+1) (o++[d/2^(n%32)%4294967296]) (by omega) ⟨by omega,by omega,by simp;omega,p3.append (dig_one (by omega)),key d rfl⟩)
 ·obtain rfl:i=x.length:=by omega
  clear ih
  rw[List.drop_of_length_le (Nat.le_refl _),val_nil,Nat.zero_div,Nat.mul_zero,Nat.add_zero,hvd,Nat.div_div_eq_div_mul,←pow_n32]at p5
  have hT2:=fun q=>ev_r1_Trim N o q p3 (by omega)
  rw[p5]at hT2
  (repeat' (first|(refine CmpP.go (fun hc => ?_) (fun hc => ?_)<;>first|(exfalso;omega)|(conv=>whnf))|(refine LenP.go ?_;conv=>whnf)|(refine SnR.all (fun _=>rfl) rfl ?_ ?_;(first|rfl|simp);conv=>whnf)|(refine AKM.x ?_;conv=>whnf)|(refine CallP.go (hT2 _) ?_;conv=>whnf)))
  exact FinP.go rfl (cl_sl _)
end Go.Eng
