/-
  Polynomials of the references: SameFilters.
-/
import Derived.Test.YtdgodemmncmlaaaGreatB9
import Derived.Test.YtdgodemmncmlaaaGreatB11
import Derived.Test.YtdgodemmncmlaaaGreatB4
import Derived.Test.YtdgodemmncmlaaaGreatB10
import Derived.Test.YtdgodemmncmlaaaGreatB1
import Derived.Test.YtdgodemmncmlaaaGreatB3
import Derived.Test.YtdgodemmncmlaaaGreatB5
import Derived.ProofKit
import Derived.OpenShut
import Derived.ChangeOld
import Derived.WalkKit
import Derived.WideShapes
import Derived.ChangeArms
set_option linter.unusedSimpArgs false
set_option linter.unusedVariables false
set_option linter.unnecessarySimpa false
namespace Go.Eng
open F
attribute [local irreducible] AKM CmpP Req OpP UnP ConvP RdP LdR StR MkR LenP AppR AppN CpyR RowP SnR Bds SlS CallP CalP FinP pw LdM GetM SetM PutM MkM AppM SnM FlP CallR
set_option maxHeartbeats 8000000
variable {L:Lib}
theorem ev_SameFilters (N:BldGLib L) (p r:List Rat) (k:Nat) (hp:Bs k p) (hr:Bs k r) (hk:k<2199023255552) (hn:p.length≤1000000) (hm:r.length≤1000000):Ev L 176 [.agg [.sl false (p.map eQ),.sl false (r.map eQ)],.agg [.sl false (p.map eQ),.sl false (r.map eQ)]] (.bool true):=by
 have hP:=fun q1 q2=>ev_r5_Same N.toR05GLib q1 q2 p k hp hk hn
 have hR:=fun q1 q2=>ev_r5_Same N.toR05GLib q1 q2 r k hr hk hm
 refine Ev.x N.ref22_SameFilters rfl rfl ?_
 (repeat' (first|(refine AKM.x ?_;conv=>whnf)|(refine CallP.go (hP _ _) ?_;conv=>whnf)|(refine CallP.go (hR _ _) ?_;conv=>whnf)))
 exact FinP.b rfl
end Go.Eng
namespace Go.Eng
open F
attribute [local irreducible] AKM CmpP Req OpP UnP ConvP RdP LdR StR MkR LenP AppR AppN CpyR RowP SnR Bds SlS CallP CalP FinP pw LdM GetM SetM PutM MkM AppM SnM FlP CallR
set_option maxHeartbeats 8000000
variable {L:Lib}
def numQ (c:Wd) (l:List Int):List Rat:=l.map fun v=>Rat.divInt v (pw c.f)
theorem num_bt {c:Wd} (hc:WV c) {v:Int} (hv : -9223372036854775808≤v∧v≤9223372036854775807):Bt 64 (Rat.divInt v (pw c.f)):=by
 unfold WV at hc
 have hpl:=pw_le (n:=c.f) (m:=23) (by omega)
 have hp23:pw 23=8388608:=by unfold pw;rfl
 have hpp:=pw_pos c.f
 obtain ⟨d,hd⟩:=Int.eq_ofNat_of_zero_le (show 0≤pw c.f by omega)
 rw[hd,Rat.divInt_ofNat]
 rw[hd]at hpl
 refine Bt.mk ?_ ?_
 ·show _≤18446744073709551616;omega
 ·show _≤18446744073709551616;omega
theorem num_bs {c:Wd} (hc:WV c) {l:List Int} (hl : ∀ v∈l,-9223372036854775808≤v∧v≤9223372036854775807):Bs 64 (numQ c l):=by
 intro x hx
 simp only[numQ,List.mem_map]at hx
 obtain ⟨v,hv,rfl⟩:=hx
 exact num_bt hc (hl v hv)
theorem numQ_len (c:Wd) (l:List Int):(numQ c l).length=l.length:=by simp [numQ]
end Go.Eng

namespace Go.Eng
open F
attribute [local irreducible] AKM CmpP Req OpP UnP ConvP RdP LdR StR MkR LenP AppR AppN CpyR RowP SnR Bds SlS CallP CalP FinP pw LdM GetM SetM PutM MkM AppM SnM FlP CallR
attribute [local irreducible] AeqP
set_option maxHeartbeats 8000000
variable {L:Lib}
end Go.Eng

namespace Go.Eng
open F
attribute [local irreducible] AKM CmpP Req OpP UnP ConvP RdP LdR StR MkR LenP AppR AppN CpyR RowP SnR Bds SlS CallP CalP FinP pw LdM GetM SetM PutM MkM AppM SnM FlP CallR
set_option maxHeartbeats 8000000
variable {L:Lib}
theorem sgn_num0 {x:Rat}:sgn x.num=0↔x=0:=by
 rw[←Rat.num_eq_zero]
 unfold sgn;split<;>(try split)<;>omega
theorem ev_Ideal (I:FixedLib L) (N:BldGLib L) (q1 q2:Bool) {b a:List Int} {c:Wd} (h:OkD b a c c) (h0:wrongD b a c c=0):Ev L 174 [.sl q1 (b.map encInt),.sl q2 (a.map encInt),.agg (encW c)] (.tup [.agg [.sl false ((trimQ (numQ c b)).map eQ),.sl false ((trimQ (((1:Int):Rat)::numQ c a)).map eQ)],.int .i64 0]):=by
 have hw:=fun q q'=>ev_wrongG I N.toDirectGLib b a q q' c c (by have:=h.l1;omega) (by have:=h.l2;omega)
 rw[h0]at hw
 obtain ⟨hd,hcw,l1,l2,wb,wa⟩:=h
 have rb : ∀ v∈b,InI v:=fun v hv=>by have:=FT_rng hcw (wb v hv);unfold InI;omega
 have ra : ∀ v∈a,InI v:=fun v hv=>by have:=FT_rng hcw (wa v hv).1;unfold InI;omega
 have hQb:=numQ_len c b
 have hO:=ev_rational_Of N.toRatGLib 1 (by omega)
 refine Ev.x N.direct_Ideal rfl rfl ?_
 (repeat' (first|(refine CmpP.go (fun hc => ?_) (fun hc => ?_)<;>first|(exfalso;omega)|(conv=>whnf))|(refine LenP.go ?_;conv=>whnf)|(refine AKM.x ?_;conv=>whnf)|(refine CallP.go (hw _ _) ?_;conv=>whnf)))
 refine MkR.go (enc:=eO) none b.length rfl rfl (by omega) ?_
 (conv=>whnf)
 (repeat' (refine LenP.go ?_;conv=>whnf))
 refine AKM.loop1 (fun i=>b.length-i) (fun (i:Nat)=>i≤b.length) (fun i=>[(29,.int .i64 i)]) (fun i=>[(26,26,.rw 3 ((fillO ((numQ c b).take i) b.length).map eO))]) [] [] 0 (by first|exact (by (conv=>whnf);exact ⟨rfl,rfl,rfl⟩)|(rw[List.take_zero,←fillO_nil];exact (by (conv=>whnf);exact ⟨rfl,rfl,rfl⟩))) (by omega) ?_
 intro i p1 ih
 by_cases hi:i<b.length
 ·obtain ⟨v,hv⟩ : ∃ v,b[i]? = some v:=⟨_,List.getElem?_eq_getElem hi⟩
  have hv':b[(i:Int).toNat]? = some v:=hv
  have hV:=ev_Value I N c v hcw (rb v (List.mem_of_getElem? hv))
  have hti:((numQ c b).take i).length=i:=by rw[List.length_take];omega
  have hl:=fillO_len (l:=(numQ c b).take i) (m:=b.length) (by omega)
  have hs:=fillO_set (l:=(numQ c b).take i) (m:=b.length) (x:=Rat.divInt v (pw c.f)) (by omega)
  have hqi:(numQ c b)[i]? = some (Rat.divInt v (pw c.f)):=by rw[numQ,List.getElem?_map,hv];rfl
  rw[hti,←take_snocQ hqi]at hs
  (repeat' (first|(refine CmpP.go (fun hc => ?_) (fun hc => ?_)<;>first|(exfalso;omega)|(conv=>whnf))|(refine Req.go ?_ ?_;omega;conv=>whnf)|(refine RdP.at (by assumption) ?_ rfl ?_;omega;conv=>whnf)|(refine AKM.x ?_;conv=>whnf)|(refine CallP.go (hV) ?_;conv=>whnf)))
  refine StR.nat (enc:=eO) (some (Rat.divInt v (pw c.f))) rfl (fun e=>by cases e<;>rfl) (by omega) ?_
  (conv=>whnf)
  (repeat' (refine OpP.add ?_ ?_;omega;conv=>whnf))
  rw[hs]
  exact AKM.back [] (by (conv=>whnf);exact ⟨rfl,rfl,rfl⟩) (ih (i+1) (by omega) (by omega))
 ·obtain rfl:i=b.length:=by omega
  clear ih
  rw[List.take_of_length_le (Nat.le_of_eq hQb),fillO_full hQb]
  (repeat' (first|(refine CmpP.go (fun hc => ?_) (fun hc => ?_)<;>first|(exfalso;omega)|(conv=>whnf))|(refine LenP.go ?_;conv=>whnf)|(refine AKM.x ?_;conv=>whnf)|(refine CallP.go (hO) ?_;conv=>whnf)))
  have hPl:(((1:Int):Rat)::numQ c a).length=a.length+1:=by rw[List.length_cons,numQ_len]
  have hQr:=num_bs hcw (fun v hv=>ra v hv)
  have hQs:=num_bs hcw (fun v hv=>rb v hv)
  have hPs:Bs 64 (((1:Int):Rat)::numQ c a):=by
   intro x hx
   rcases List.mem_cons.1 hx with rfl|hx
   ·exact Bt.one 64
   ·exact hQr x hx
  generalize hl:((1:Int):Rat)::numQ c a=r at *
  have hl0:r.take 1=[((1:Int):Rat)]:=by rw[←hl];rfl
  have hat : ∀ i v,a[i]? = some v→r[i+1]? = some (Rat.divInt v (pw c.f)):=fun i v h=>by rw[←hl,List.getElem?_cons_succ,numQ,List.getElem?_map,h];rfl
  rw[show ([[AV.bool (decide (((1:Int):Rat).num<0)),AV.sl false ((dg ((1:Int):Rat).num.natAbs).map e32),AV.sl false ((dg ((1:Int):Rat).den).map e32)]]:List (List AV))=(r.take (0+1)).map eQ by rw[hl0];rfl]
  refine AKM.loop1 (fun i=>a.length-i) (fun (i:Nat)=>i≤a.length) (fun i=>[(45,.int .i64 i),(12,.row 42 0 3 0 (i+1))]) (fun i=>[(42,42,.rw 3 ((r.take (i+1)).map eQ))]) [] [] 0 (by (conv=>whnf);exact ⟨rfl,rfl,rfl⟩) (by omega) ?_
  intro i g1 ih
  have hti:(r.take (i+1)).length=i+1:=by rw[List.length_take];omega
  by_cases hi:i<a.length
  ·obtain ⟨v,hv⟩ : ∃ v,a[i]? = some v:=⟨_,List.getElem?_eq_getElem hi⟩
   have hv':a[(i:Int).toNat]? = some v:=hv
   have hV:=ev_Value I N c v hcw (ra v (List.mem_of_getElem? hv))
   have hsn:=take_snocQ (hat i v hv)
   have hti1:(r.take (i+1+1)).length=i+1+1:=by rw[List.length_take];omega
   (repeat' (first|(refine CmpP.go (fun hc => ?_) (fun hc => ?_)<;>first|(exfalso;omega)|(conv=>whnf))|(refine RdP.at (by assumption) ?_ rfl ?_;omega;conv=>whnf)|(refine RowP.e1 ?_;conv=>whnf)|(refine AKM.x ?_;conv=>whnf)|(refine CallP.go (hV) ?_;conv=>whnf)))
   refine AppR.one (enc:=eQ) (Rat.divInt v (pw c.f)) rfl hti.symm rfl (by omega) (by omega) ?_
   rw[←hsn,hti1]
   (conv=>whnf)
   (repeat' (refine OpP.add ?_ ?_;omega;conv=>whnf))
   exact AKM.back [(42,54)] (by (conv=>whnf);exact ⟨rfl,rfl,rfl⟩) (ih (i+1) (by omega) (by omega))
  ·obtain rfl:i=a.length:=by omega
   rw[←hPl,List.take_of_length_le (Nat.le_refl r.length)]
   clear ih hti
   generalize numQ c b=l at *
   rw[←hQb]
   (repeat' (first|(refine CmpP.go (fun hc => ?_) (fun hc => ?_)<;>first|(exfalso;omega)|(conv=>whnf))|(refine AKM.x ?_;conv=>whnf)))
   refine CalP.walk 1000 N.poly_Trim rfl rfl ?_
   (repeat' (refine AKM.x ?_;conv=>whnf))
   refine CalP.walk 1000 N.poly_cut rfl rfl ?_
   (repeat' (refine AKM.x ?_;conv=>whnf))
   refine AKM.loop1 (fun n=>n) (fun (n:Nat)=>n≤l.length∧cutN l l.length=cutN l n) (fun n=>[(3,.int .i64 n)]) (fun _=>[(26,26,.rw 3 (l.map eQ))]) [] [] l.length (by (conv=>whnf);exact ⟨rfl,rfl,rfl⟩) ⟨Nat.le_refl _,rfl⟩ ?_
   intro n ⟨p1,p2⟩ ih
   have done : ∀ {n:Nat},cutN l l.length=n→trimQ l=l.take n:=fun h=>by rw[trimQ,h]
   by_cases hz:n=0∨(∃ m x,n=m+1∧l[m]? = some x∧x≠0)
   ·have hcut:cutN l l.length=n:=by
     rw[p2]
     rcases hz with rfl|⟨m,x,rfl,h1,h2⟩
     ·rfl
     ·rw[cutN,if_neg]
      rw[List.getD_eq_getElem?_getD,h1];exact h2
    have htq:=done hcut
    have htl:(l.take n).length=n:=by rw[List.length_take];omega
    clear ih hcut p2 done
    rcases hz with h0|⟨m,x,hnm,h1,h2⟩
    case' inl=>(repeat' (first|(refine CmpP.go (fun hc => ?_) (fun hc => ?_)<;>first|(exfalso;omega)|(conv=>whnf))|(refine AKM.x ?_;conv=>whnf)))
    case' inr =>
     have h1':l[((n:Int)-1).toNat]? = some x:=by rw[show ((n:Int)-1).toNat=m by omega];exact h1
     have hS':=ev_signQ N.toRatGLib (hQs.at h1) (by omega)
     have hs:=sgn_num0 (x:=x)
     generalize sgn x.num=s at *
     have hS : ∀ v,l[((n:Int)-1).toNat]? = some v→Ev L 97 [.agg (eQ v)] (.int .i64 s):=fun v h=>by
      obtain rfl:=Option.some.inj (h1'.symm.trans h)
      exact hS'
     have hs0:s≠0:=fun h=>h2 (hs.1 h)
     (repeat' (first|(refine CmpP.go (fun hc => ?_) (fun hc => ?_)<;>first|(exfalso;omega)|(conv=>whnf))|(refine Req.go ?_ ?_;omega;conv=>whnf)|(refine OpP.sub ?_ ?_;omega;conv=>whnf)|(refine LdR.int ?_ (fun _=>rfl) (fun v hv => ?_);omega;conv=>whnf)|(refine AKM.x ?_;conv=>whnf)|(refine CallP.go (hS _ hv) ?_;conv=>whnf)))
    all_goals
     refine Bds.up n (by omega) (by omega) ?_
     (conv=>whnf)
     skip
     refine ⟨rfl,_,rfl,?_⟩
     (conv=>whnf)
     skip
     refine MkR.go (enc:=eO) none n rfl rfl (by omega) ?_
     (conv=>whnf)
     skip
     refine AKM.loop1 (fun i=>n-i) (fun (i:Nat)=>i≤n) (fun i=>[(11,.int .i64 i)]) (fun i=>[(170008,170008,.rw 3 ((fillO (l.take i) n).map eO)),(26,26,.rw 3 (l.map eQ))]) [] [] 0 (by first|exact (by (conv=>whnf);exact ⟨rfl,rfl,rfl⟩)|(rw[List.take_zero,←fillO_nil];exact (by (conv=>whnf);exact ⟨rfl,rfl,rfl⟩))) (by omega) ?_
     intro i g1 ih
     by_cases hi:i<n
     ·all_goals try (exfalso;omega)
      all_goals
       obtain ⟨y,hy⟩ : ∃ y,l[i]? = some y:=⟨_,List.getElem?_eq_getElem (by omega)⟩
       have hy':l[(i:Int).toNat]? = some y:=hy
       have hti:(l.take i).length=i:=by rw[List.length_take];omega
       have hl:=fillO_len (l:=l.take i) (m:=n) (by omega)
       have hst:=fillO_set (l:=l.take i) (m:=n) (x:=y) (by omega)
       rw[hti,←take_snocQ hy]at hst
       have hT':=ev_trimQ N.toRatGLib (hQs.at hy) (by omega)
       have hT : ∀ v,l[(i:Int).toNat]? = some v→Ev L 95 [.agg (eQ v)] (.agg (eQ y)):=fun v h=>by
        obtain rfl:=Option.some.inj (hy'.symm.trans h)
        exact hT'
       (repeat' (first|(refine CmpP.go (fun hc => ?_) (fun hc => ?_)<;>first|(exfalso;omega)|(conv=>whnf))|(refine Req.go ?_ ?_;omega;conv=>whnf)|(refine LdR.nat ?_ (fun _=>rfl) (fun v hv => ?_);omega;conv=>whnf)|(refine AKM.x ?_;conv=>whnf)|(refine CallP.go (hT _ hv) ?_;conv=>whnf)))
       refine StR.nat (enc:=eO) (some y) rfl (fun e=>by cases e<;>rfl) (by omega) ?_
       (conv=>whnf)
       (repeat' (refine OpP.add ?_ ?_;omega;conv=>whnf))
       rw[hst]
       exact AKM.back [] (by (conv=>whnf);exact ⟨rfl,rfl,rfl⟩) (ih (i+1) (by omega) (by omega))
     ·obtain rfl:i=n:=by omega
      clear ih
      rw[fillO_full htl,←htq]at *
      rw[←htq]at htl
      (repeat' (first|(refine CmpP.go (fun hc => ?_) (fun hc => ?_)<;>first|(exfalso;omega)|(conv=>whnf))|(refine AKM.x ?_;conv=>whnf)))
      refine ⟨rfl,_,rfl,?_⟩
      (conv=>whnf)
      skip
      have htlB:=htl
      have hcl:Clean (.tup [.agg [.sl false ((trimQ l).map eQ),.sl false ((trimQ r).map eQ)],.int .i64 0]):=by
       simp only[Clean,CleanL,true_and,and_true]
       exact ⟨cl_eQs _,cl_eQs _⟩
      clear htq htl
      refine CalP.walk 1000 N.poly_Trim rfl rfl ?_
      (repeat' (refine AKM.x ?_;conv=>whnf))
      refine CalP.walk 1000 N.poly_cut rfl rfl ?_
      (repeat' (refine AKM.x ?_;conv=>whnf))
      refine AKM.loop1 (fun n=>n) (fun (n:Nat)=>n≤r.length∧cutN r r.length=cutN r n) (fun n=>[(3,.int .i64 n)]) (fun _=>[(42,42,.rw 3 (r.map eQ))]) [] [] r.length (by (conv=>whnf);exact ⟨rfl,rfl,rfl⟩) ⟨Nat.le_refl _,rfl⟩ ?_
      intro n ⟨p1,p2⟩ ih
      have done : ∀ {n:Nat},cutN r r.length=n→trimQ r=r.take n:=fun h=>by rw[trimQ,h]
      by_cases hz:n=0∨(∃ m x,n=m+1∧r[m]? = some x∧x≠0)
      ·have hcut:cutN r r.length=n:=by
        rw[p2]
        rcases hz with rfl|⟨m,x,rfl,h1,h2⟩
        ·rfl
        ·rw[cutN,if_neg]
         rw[List.getD_eq_getElem?_getD,h1];exact h2
       have htq:=done hcut
       have htl:(r.take n).length=n:=by rw[List.length_take];omega
       clear ih hcut p2 done
       rcases hz with h0|⟨m,x,hnm,h1,h2⟩
       case' inl=>(repeat' (first|(refine CmpP.go (fun hc => ?_) (fun hc => ?_)<;>first|(exfalso;omega)|(conv=>whnf))|(refine AKM.x ?_;conv=>whnf)))
       case' inr =>
        have h1':r[((n:Int)-1).toNat]? = some x:=by rw[show ((n:Int)-1).toNat=m by omega];exact h1
        have hS':=ev_signQ N.toRatGLib (hPs.at h1) (by omega)
        have hs:=sgn_num0 (x:=x)
        generalize sgn x.num=s at *
        have hS : ∀ v,r[((n:Int)-1).toNat]? = some v→Ev L 97 [.agg (eQ v)] (.int .i64 s):=fun v h=>by
         obtain rfl:=Option.some.inj (h1'.symm.trans h)
         exact hS'
        have hs0:s≠0:=fun h=>h2 (hs.1 h)
        (repeat' (first|(refine CmpP.go (fun hc => ?_) (fun hc => ?_)<;>first|(exfalso;omega)|(conv=>whnf))|(refine Req.go ?_ ?_;omega;conv=>whnf)|(refine OpP.sub ?_ ?_;omega;conv=>whnf)|(refine LdR.int ?_ (fun _=>rfl) (fun v hv => ?_);omega;conv=>whnf)|(refine AKM.x ?_;conv=>whnf)|(refine CallP.go (hS _ hv) ?_;conv=>whnf)))
       all_goals
        refine Bds.up n (by omega) (by omega) ?_
        (conv=>whnf)
        skip
        refine ⟨rfl,_,rfl,?_⟩
        (conv=>whnf)
        skip
        refine MkR.go (enc:=eO) none n rfl rfl (by omega) ?_
        (conv=>whnf)
        skip
        refine AKM.loop1 (fun i=>n-i) (fun (i:Nat)=>i≤n) (fun i=>[(11,.int .i64 i)]) (fun i=>[(1170008,170008,.rw 3 ((fillO (r.take i) n).map eO)),(42,42,.rw 3 (r.map eQ))]) [] [] 0 (by first|exact (by (conv=>whnf);exact ⟨rfl,rfl,rfl⟩)|(rw[List.take_zero,←fillO_nil];exact (by (conv=>whnf);exact ⟨rfl,rfl,rfl⟩))) (by omega) ?_
        intro i g1 ih
        by_cases hi:i<n
        ·all_goals try (exfalso;omega)
         all_goals
          obtain ⟨y,hy⟩ : ∃ y,r[i]? = some y:=⟨_,List.getElem?_eq_getElem (by omega)⟩
          have hy':r[(i:Int).toNat]? = some y:=hy
          have hti:(r.take i).length=i:=by rw[List.length_take];omega
          have hl:=fillO_len (l:=r.take i) (m:=n) (by omega)
          have hst:=fillO_set (l:=r.take i) (m:=n) (x:=y) (by omega)
          rw[hti,←take_snocQ hy]at hst
          have hT':=ev_trimQ N.toRatGLib (hPs.at hy) (by omega)
          have hT : ∀ v,r[(i:Int).toNat]? = some v→Ev L 95 [.agg (eQ v)] (.agg (eQ y)):=fun v h=>by
           obtain rfl:=Option.some.inj (hy'.symm.trans h)
           exact hT'
          (repeat' (first|(refine CmpP.go (fun hc => ?_) (fun hc => ?_)<;>first|(exfalso;omega)|(conv=>whnf))|(refine Req.go ?_ ?_;omega;conv=>whnf)|(refine LdR.nat ?_ (fun _=>rfl) (fun v hv => ?_);omega;conv=>whnf)|(refine AKM.x ?_;conv=>whnf)|(refine CallP.go (hT _ hv) ?_;conv=>whnf)))
          refine StR.nat (enc:=eO) (some y) rfl (fun e=>by cases e<;>rfl) (by omega) ?_
          (conv=>whnf)
          (repeat' (refine OpP.add ?_ ?_;omega;conv=>whnf))
          rw[hst]
          exact AKM.back [] (by (conv=>whnf);exact ⟨rfl,rfl,rfl⟩) (ih (i+1) (by omega) (by omega))
        ·obtain rfl:i=n:=by omega
         clear ih
         rw[fillO_full htl,←htq]at *
         rw[←htq]at htl
         (repeat' (first|(refine CmpP.go (fun hc => ?_) (fun hc => ?_)<;>first|(exfalso;omega)|(conv=>whnf))|(refine AKM.x ?_;conv=>whnf)))
         refine ⟨rfl,_,rfl,?_⟩
         (conv=>whnf)
         skip
         (refine SnR.all (enc:=eQ) (fun _=>rfl) rfl htlB.symm ?_;(conv=>whnf);refine SnR.all (enc:=eQ) (fun _=>rfl) rfl htl.symm ?_;(conv=>whnf);exact FinP.go rfl hcl)
      ·obtain ⟨m,rfl⟩ : ∃ m,n=m+1:=⟨n-1,by omega⟩
       obtain ⟨x,hx⟩ : ∃ x,r[m]? = some x:=⟨_,List.getElem?_eq_getElem (by omega)⟩
       have hx0:x=0:=by
        rcases Classical.em (x=0) with h|h
        ·exact h
        ·exact (hz (Or.inr ⟨m,x,rfl,hx,h⟩)).elim
       have hx':r[((m+1:Nat)-1:Int).toNat]? = some x:=by rw[show ((m+1:Nat)-1:Int).toNat=m by omega];exact hx
       have hS':=ev_signQ N.toRatGLib (hPs.at hx) (by omega)
       have hs:=sgn_num0 (x:=x)
       generalize sgn x.num=s at *
       have hS : ∀ v,r[((m+1:Nat)-1:Int).toNat]? = some v→Ev L 97 [.agg (eQ v)] (.int .i64 s):=fun v h=>by
        obtain rfl:=Option.some.inj (hx'.symm.trans h)
        exact hS'
       have hs0:=hs.2 hx0
       (repeat' (first|(refine CmpP.go (fun hc => ?_) (fun hc => ?_)<;>first|(exfalso;omega)|(conv=>whnf))|(refine Req.go ?_ ?_;omega;conv=>whnf)|(refine OpP.sub ?_ ?_;omega;conv=>whnf)|(refine LdR.int ?_ (fun _=>rfl) (fun v hv => ?_);omega;conv=>whnf)|(refine AKM.x ?_;conv=>whnf)|(refine CallP.go (hS _ hv) ?_;conv=>whnf)))
       rw[show ((m+1:Nat):Int)-1=(m:Int) by omega]
       exact AKM.back [] (by (conv=>whnf);exact ⟨rfl,rfl,rfl⟩) (ih m (by omega) ⟨by omega,by rw[p2,cutN,if_pos (by rw[List.getD_eq_getElem?_getD,hx];exact hx0)]⟩)
   ·obtain ⟨m,rfl⟩ : ∃ m,n=m+1:=⟨n-1,by omega⟩
    obtain ⟨x,hx⟩ : ∃ x,l[m]? = some x:=⟨_,List.getElem?_eq_getElem (by omega)⟩
    have hx0:x=0:=by
     rcases Classical.em (x=0) with h|h
     ·exact h
     ·exact (hz (Or.inr ⟨m,x,rfl,hx,h⟩)).elim
    have hx':l[((m+1:Nat)-1:Int).toNat]? = some x:=by rw[show ((m+1:Nat)-1:Int).toNat=m by omega];exact hx
    have hS':=ev_signQ N.toRatGLib (hQs.at hx) (by omega)
    have hs:=sgn_num0 (x:=x)
    generalize sgn x.num=s at *
    have hS : ∀ v,l[((m+1:Nat)-1:Int).toNat]? = some v→Ev L 97 [.agg (eQ v)] (.int .i64 s):=fun v h=>by
     obtain rfl:=Option.some.inj (hx'.symm.trans h)
     exact hS'
    have hs0:=hs.2 hx0
    (repeat' (first|(refine CmpP.go (fun hc => ?_) (fun hc => ?_)<;>first|(exfalso;omega)|(conv=>whnf))|(refine Req.go ?_ ?_;omega;conv=>whnf)|(refine OpP.sub ?_ ?_;omega;conv=>whnf)|(refine LdR.int ?_ (fun _=>rfl) (fun v hv => ?_);omega;conv=>whnf)|(refine AKM.x ?_;conv=>whnf)|(refine CallP.go (hS _ hv) ?_;conv=>whnf)))
    rw[show ((m+1:Nat):Int)-1=(m:Int) by omega]
    exact AKM.back [] (by (conv=>whnf);exact ⟨rfl,rfl,rfl⟩) (ih m (by omega) ⟨by omega,by rw[p2,cutN,if_pos (by rw[List.getD_eq_getElem?_getD,hx];exact hx0)]⟩)
end Go.Eng

namespace Go.Eng
open F
attribute [local irreducible] AKM CmpP Req OpP UnP ConvP RdP LdR StR MkR LenP AppR AppN CpyR RowP SnR Bds SlS CallP CalP FinP pw LdM GetM SetM PutM MkM AppM SnM FlP CallR
set_option maxHeartbeats 8000000
variable {L:Lib} {b a:List Int} {d c:Wd}
theorem rowD_one (x fr:Int):rowD [x] 1 fr=[(fr,x)]:=by simp [rowD]
end Go.Eng

namespace Go.Eng
open F
attribute [local irreducible] AKM CmpP Req OpP UnP ConvP RdP LdR StR MkR LenP AppR AppN CpyR RowP SnR Bds SlS CallP CalP FinP pw LdM GetM SetM PutM MkM AppM SnM FlP CallR
set_option maxHeartbeats 16000000
variable {L:Lib} {b a:List Int} {d c:Wd}
def tK (b a:List Int) (c:Wd) (mx k:Nat):List (Int × Int):=(if k<b.length then [(0,b.getD k 0)] else [])++(if 1≤k∧k≤a.length then [((1:Int)+mx,-a.getD (k-1) 0)] else [])++(if k<mx then [((k:Int)+1,pw c.f)] else [])
theorem rowD_neg (x fr:Int):rowD [x] (-1) fr=[(fr,-x)]:=by simp [rowD]
theorem take_drop_one {l:List Int} {k:Nat} (h:k<l.length):(l.take (k+1)).drop k=[l.getD k 0]:=by
 have hg:l[k]? = some l[k]:=List.getElem?_eq_getElem h
 rw[List.take_add_one,hg,Option.toList_some,List.drop_append_of_le_length (by rw[List.length_take];omega),List.drop_of_length_le (by rw[List.length_take];omega),List.nil_append,List.getD_eq_getElem?_getD,hg]
 rfl
theorem trS_eq (b a:List Int) (c:Wd) (mx k:Nat):trS b a c mx k=tK b a c mx k:=by
 unfold trS tK
 congr 1
 ·congr 1
  ·by_cases h:k<b.length
   ·rw[if_pos h,if_pos h,take_drop_one h,rowD_one]
   ·rw[if_neg h,if_neg h]
  ·by_cases h:1≤k∧k≤a.length
   ·rw[if_pos h,if_pos h]
    obtain ⟨j,rfl⟩ : ∃ j,k=j+1:=⟨k-1,by omega⟩
    rw[Nat.add_sub_cancel,take_drop_one (by omega),rowD_neg,Int.add_comm 1 (mx:Int)]
   ·rw[if_neg h,if_neg h]
 ·by_cases h:k<mx
  ·rw[if_pos h,if_pos h,rowD_one]
  ·rw[if_neg h,if_neg h]
end Go.Eng

namespace Go.Eng
open F
attribute [local irreducible] AKM CmpP Req OpP UnP ConvP RdP LdR StR MkR LenP AppR AppN CpyR RowP SnR Bds SlS CallP CalP FinP pw LdM GetM SetM PutM MkM AppM SnM FlP CallR
set_option maxHeartbeats 4000000
variable {L:Lib}
end Go.Eng



namespace Go.Eng
open F
attribute [local irreducible] AKM CmpP Req OpP UnP ConvP RdP LdR StR MkR LenP AppR AppN CpyR RowP SnR Bds SlS CallP CalP FinP pw LdM GetM SetM PutM MkM AppM SnM FlP CallR
set_option maxHeartbeats 1000000
variable {L:Lib} (n:Nt)
end Go.Eng

namespace Go.Eng
open F
attribute [local irreducible] AKM CmpP Req OpP UnP ConvP RdP LdR StR MkR LenP AppR AppN CpyR RowP SnR Bds SlS CallP CalP FinP pw LdM GetM SetM PutM MkM AppM SnM FlP CallR
set_option maxHeartbeats 4000000
variable {L:Lib}
section
variable (n:Nt)
end
end Go.Eng

namespace Go.Eng
def dot:List Int→List Int→Int
 | u::us,v::vs=>u*v+dot us vs
 | _,_=>0
def win (n:Nat) (l:List Int):List Int:=(l++List.replicate n 0).take n
theorem FT_le {w:Wd} {v:Int} (h:FT w v) : -8388608≤v∧v≤8388608:=by
 obtain ⟨hw,e1,e2⟩:=h
 obtain ⟨h1,h2,h3,h4⟩:=low_high hw
 omega
theorem mem_rowD {l:List Int} {sg fr:Int} {t:Int × Int} (h:t∈rowD l sg fr) : ∃ i:Nat,∃ v∈l,i<l.length∧t=(fr+i,sg*v):=by
 simp only[rowD,List.mem_map,List.mem_range]at h
 obtain ⟨i,hi,rfl⟩:=h
 exact ⟨i,l[i],List.getElem_mem hi,hi,by simp [List.getD_eq_getElem?_getD,List.getElem?_eq_getElem hi]⟩
theorem mem_delayS {n:Nat} {a b k:Int} (h:k∈delayS n a b):k=b ∨ ∃ i:Nat,1≤i∧i<n∧k=a+i-1:=by
 simp only[delayS,List.mem_map,List.mem_range]at h
 obtain ⟨i,hi,rfl⟩:=h
 by_cases h0:i=0
 ·exact Or.inl (by rw[if_pos h0])
 ·exact Or.inr ⟨i,by omega,hi,by rw[if_neg h0]⟩
variable {b a:List Int} {d c:Wd}
theorem form_net (hd:WV d) (hc:WV c) (l1:1≤b.length∧b.length≤49) (l2:a.length≤8) (hb : ∀ v∈b,FT c v) (ha : ∀ v∈a,FT c v∧FT c (-v)):netB (formOneS b a d c)=true:=by
 rw[netB_iff]
 refine ⟨hd,hc,⟨by simp only[formOneS];omega,by simp only[formOneS];omega,by simp [formOneS],by simp [formOneS,delayS]⟩,?_,?_,by simp only[formOneS];omega,by simp only[formOneS,List.length_cons,List.length_nil];omega⟩
 ·simp only[formOneS,nodesB,Bool.and_true,Bool.and_eq_true,decide_eq_true_eq,List.all_eq_true]
  refine ⟨by simp [rowD_len];omega,fun t ht => ?_⟩
  simp only[termB,decide_eq_true_eq]
  rcases List.mem_append.1 ht with h|h
  ·obtain ⟨i,v,hv,hi,rfl⟩:=mem_rowD h
   exact ⟨by simp only;omega,by simp only;omega,Or.inr (by simpa using hb v hv)⟩
  ·obtain ⟨i,v,hv,hi,rfl⟩:=mem_rowD h
   exact ⟨by simp only;omega,by simp only;omega,Or.inr (by simpa using (ha v hv).2)⟩
 ·simp only[formOneS,nextB,List.all_eq_true,decide_eq_true_eq,List.length_cons,List.length_nil]
  intro k hk
  rcases List.mem_append.1 hk with h|h
  all_goals (rcases mem_delayS h with rfl|⟨i,h1,h2,rfl⟩<;>refine decide_eq_true ?_<;>omega)
end Go.Eng

namespace Go.Eng
open Go.ChangeShapes Go.WideShapes Go.ChangeAt Go.RowKit
inductive Ty where
 | int (k:IntKind)
 | bool
 | sl (e:Ty)
 | nil
 | cons (a r:Ty)
def Ty.cells:Ty→Nat
 | .int _=>1 | .bool=>1 | .sl _=>1
 | .nil=>0
 | .cons a r=>a.cells+r.cells
def HasL:Ty→List AV→Prop
 | .int k,cs => ∃ n,cs=[.int k n]∧(Lit.int k n).wf=true
 | .bool,cs => ∃ b,cs=[.bool b]
 | .sl e,cs => ∃ es,cs=[.sl true es]∧es.length≤maxLen ∧ ∀ x∈es,HasL e x
 | .nil,cs=>cs=[]
 | .cons a r,cs => ∃ x y,cs=x++y∧HasL a x∧HasL r y
theorem HasL.len : ∀ {ty:Ty} {cs:List AV},HasL ty cs→cs.length=ty.cells
 | .int _,cs,h=>by obtain ⟨n,rfl,_⟩:=h;rfl
 | .bool,cs,h=>by obtain ⟨n,rfl⟩:=h;rfl
 | .sl _,cs,h=>by obtain ⟨n,rfl,_⟩:=h;rfl
 | .nil,cs,h=>by rw[show cs=[] from h];rfl
 | .cons a r,cs,h=>by obtain ⟨x,y,rfl,h1,h2⟩:=h;simp [Ty.cells,HasL.len h1,HasL.len h2]
def okTy (P:Program):Nat→TypeId→Ty→Bool
 | 0,_,_=>false
 | n+1,t,ty=>match P.underlying t,ty with
  | some (.int k),.int k'=>decide (k=k')
  | some .bool,.bool=>true
  | some (.slice e),.sl ty'=>okTy P n e ty'&&(P.cellsOf e == ty'.cells&&decide (0<ty'.cells))
  | some (.struct fs),ty=>go (okTy P n) fs.toList 0 ty&&P.cellsOf t == ty.cells
  | _,_=>false
where
 go (ok:TypeId→Ty→Bool):List Field→Nat→Ty→Bool
  | [],_,.nil=>true
  | f::fs,off,.cons a r=>(f.offset == off&&(ok f.type a&&P.cellsOf f.type == a.cells))&&go ok fs (off+a.cells) r
  | _,_,_=>false
section
variable {H:Type} {enc:TypeId × Value→H} {P:Program} {w:World} {base:Nat} {spare:Nat→Bool} {held:Bool} {R:Bool→Nat→Prop}
def RdL (w:World) (R:Bool→Nat→Prop) (as:List AV) (cs:List Value):Prop:=as.length=cs.length ∧ ∀ (j:Nat) (a:AV) (c:Value),as[j]? = some a→cs[j]? = some c→Rd w R a c
theorem RdL.one {a:AV} {c:Value} (h:Rd w R a c):RdL w R [a] [c]:=by
 refine ⟨rfl,fun j a' c' h1 h2 => ?_⟩
 cases j with
 | zero=>simp at h1 h2;subst h1 h2;exact h
 | succ j=>simp at h1
theorem RdL.append {as bs:List AV} {cs ds:List Value} (h1:RdL w R as cs) (h2:RdL w R bs ds):RdL w R (as++bs) (cs++ds):=by
 refine ⟨by simp [h1.1,h2.1],fun j a c ha hc => ?_⟩
 by_cases hj:j<as.length
 ·rw[List.getElem?_append_left hj]at ha
  rw[List.getElem?_append_left (by rw[←h1.1];exact hj)]at hc
  exact h1.2 j a c ha hc
 ·rw[List.getElem?_append_right (by omega)]at ha
  rw[List.getElem?_append_right (by rw[←h1.1];omega),←h1.1]at hc
  exact h2.2 _ a c ha hc
theorem add_off (a:Addr) (i:Nat) (h:a.spot=none):a.add i=⟨a.block,a.off+i,none⟩:=by
 obtain ⟨b,o,s⟩:=a
 simp only at h
 subst h
 exact add_none b o i
theorem open_go (hR : ∀ b,b<w.heap.size→R true b) (m:Nat) (ih : ∀ (ty:Ty) (t:TypeId) (cs:List Value) (fuel:Nat) (x:DataW H × List MemPlace),okTy P m t ty=true→DataW.trod enc P w base spare held fuel t cs=some x → ∃ as,HasL ty as∧RdL w R as cs)
  (n:Nat) (cs:List Value) : ∀ (fs:List Field) (off:Nat) (ty:Ty),okTy.go P (okTy P m) fs off ty=true→(∀ f∈fs,∃ y,DataW.trod enc P w base spare held n f.type ((cs.drop f.offset).take (P.cellsOf f.type))=some y)→off+ty.cells=cs.length → ∃ as,HasL ty as∧RdL w R as (cs.drop off)
 | [],off,ty,hok,_,hl=>by
  cases ty<;>simp only[okTy.go,Bool.false_eq_true]at hok
  simp only[Ty.cells]at hl
  exact ⟨[],rfl,by rw[List.drop_of_length_le (by omega)];exact ⟨rfl,fun j a c h=>by simp at h⟩⟩
 | f::fs,off,ty,hok,hf,hl=>by
  cases ty<;>simp only[okTy.go,Bool.false_eq_true,Bool.and_eq_true,beq_iff_eq]at hok
  rename_i a r
  obtain ⟨⟨h1,h2,h3⟩,h4⟩:=hok
  simp only[Ty.cells]at hl
  obtain ⟨y,hy⟩:=hf f List.mem_cons_self
  rw[h1,h3]at hy
  obtain ⟨as1,g1,g2⟩:=ih a f.type _ n y h2 hy
  obtain ⟨as2,g3,g4⟩:=open_go hR m ih n cs fs (off+a.cells) r h4 (fun f' h'=>hf f' (List.mem_cons_of_mem _ h')) (by omega)
  refine ⟨as1++as2,⟨as1,as2,rfl,g1,g3⟩,?_⟩
  have:=g2.append g4
  rwa [show (cs.drop off).take a.cells++cs.drop (off+a.cells)=cs.drop off by rw[←List.drop_drop,List.take_append_drop]]at this
theorem open_any (hR : ∀ b,b<w.heap.size→R true b) : ∀ (m:Nat) (ty:Ty) (t:TypeId) (cs:List Value) (fuel:Nat) (x:DataW H × List MemPlace),okTy P m t ty=true→DataW.trod enc P w base spare held fuel t cs=some x → ∃ as,HasL ty as∧RdL w R as cs
 | 0,_,_,_,_,_,h,_=>by simp [okTy]at h
 | m+1,ty,t,cs,fuel,x,hok,h=>by
  have ih:=open_any hR m
  simp only[okTy]at hok
  split at hok
  ·rename_i k k' hu
   obtain rfl:k=k':=by simpa using hok
   obtain ⟨n,rfl,_,hw⟩:=DataW.trod_int hu h
   exact ⟨[.int k n],⟨n,rfl,hw⟩,RdL.one (.int k n)⟩
  ·rename_i hu
   cases fuel with
   | zero=>simp [DataW.trod]at h
   | succ fuel =>
    unfold DataW.trod at h
    rw[hu]at h
    split at h<;>simp_all
    exact ⟨_,⟨_,rfl⟩,RdL.one (.bool _)⟩
  ·rename_i e ty' hu
   simp only[Bool.and_eq_true,beq_iff_eq,decide_eq_true_eq]at hok
   obtain ⟨h1,h2,h3⟩:=hok
   rcases DataW.trod_slice hu h with ⟨rfl,_⟩|⟨a,len,cap,elems,rest,n,_,rfl,_,hb,hl,hm,hlen,hel,_,_⟩
   ·exact ⟨[.sl true []],⟨[],rfl,by simp,by simp⟩,RdL.one (.sl0 true none 0)⟩
   ·have each : ∀ i,i<len → ∃ as cs',HasL ty' as∧RdL w R as cs'∧cs'.length=ty'.cells ∧ ∀ j,j<ty'.cells→w.cell? ((a.add (i*ty'.cells)).add j)=cs'[j]? := by
     intro i hi
     have:=hel i hi
     rw[h2,List.getElem?_eq_getElem (by omega),Option.bind_eq_some_iff]at this
     obtain ⟨cs',hc,ht⟩:=this
     obtain ⟨as,g1,g2⟩:=ih ty' e cs' n _ h1 ht
     obtain ⟨_,q1,q2⟩:=World.cells?_some hc
     exact ⟨as,cs',g1,g2,q1,q2⟩
    by_cases h0:len=0
    ·subst h0
     exact ⟨[.sl true []],⟨[],rfl,by simp,by simp⟩,RdL.one (.sl0 true (some a) cap)⟩
    ·have hspot:a.spot=none:=by
      obtain ⟨as,cs',_,_,q1,q2⟩:=each 0 (by omega)
      have:=q2 0 h3
      rw[List.getElem?_eq_getElem (by omega)]at this
      simpa [Addr.add] using World.cell?_spot this
     have hblk:a.block<w.heap.size:=by
      obtain ⟨as,cs',_,_,q1,q2⟩:=each 0 (by omega)
      have:=q2 0 h3
      rw[List.getElem?_eq_getElem (by omega)]at this
      simpa [Addr.add] using cell_lt this
     have pick : ∃ f:Nat→List AV × List Value,∀ i,i<len→HasL ty' (f i).1∧RdL w R (f i).1 (f i).2∧(f i).2.length=ty'.cells ∧ ∀ j,j<ty'.cells→w.cell? ((a.add (i*ty'.cells)).add j)=(f i).2[j]? := by
      refine ⟨fun i=>if hi:i<len then (Classical.choose (each i hi),Classical.choose (Classical.choose_spec (each i hi))) else ([],[]),fun i hi => ?_⟩
      simp only[hi,dif_pos]
      exact Classical.choose_spec (Classical.choose_spec (each i hi))
     obtain ⟨f,hf⟩:=pick
     have hget : ∀ i e',((List.range len).map fun i=>(f i).1)[i]? = some e'→i<len∧e'=(f i).1:=by
      intro i e' he
      rw[List.getElem?_map]at he
      by_cases hi:i<len
      ·rw[List.getElem?_range hi]at he
       simp at he
       exact ⟨hi,he.symm⟩
      ·rw[List.getElem?_eq_none (by simpa using hi)]at he
       cases he
     refine ⟨[.sl true ((List.range len).map fun i=>(f i).1)],⟨_,rfl,by simp;omega,fun x hx => ?_⟩,RdL.one ?_⟩
     ·obtain ⟨i,hi,rfl⟩:=List.mem_map.1 hx
      exact (hf i (List.mem_range.1 hi)).1
     ·obtain ⟨ab,ao,as⟩:=a
      simp only at hspot
      subst hspot
      have hlen':((List.range len).map fun i=>(f i).1).length=len:=by simp
      have:=Rd.sl (w:=w) (R:=R) true ((List.range len).map fun i=>(f i).1) ab ao ty'.cells cap (fun i j=>((f i).2[j]?).getD default) (by intro e;have:=congrArg List.length e;simp at this;omega) h3 (hR ab hblk) (by rw[hlen'];exact hl)
       (fun e' he=>by
        obtain ⟨i,hi,rfl⟩:=List.mem_map.1 he
        exact (hf i (List.mem_range.1 hi)).1.len)
       (fun i e' he j c hc=>by
        obtain ⟨hi,rfl⟩:=hget i e' he
        obtain ⟨g1,g2,g3,g4⟩:=hf i hi
        have hj:j<ty'.cells:=by
         have:=(List.getElem?_eq_some_iff.1 hc).1
         rwa [g1.len]at this
        have h5:=g4 j hj
        rw[add_off ⟨ab,ao,none⟩ (i*ty'.cells) rfl,add_off _ _ rfl]at h5
        simp only at h5
        rw[show ao+(i*ty'.cells+j)=ao+i*ty'.cells+j by omega,h5,List.getElem?_eq_getElem (by omega)]
        rfl)
       (fun i e' he j c hc=>by
        obtain ⟨hi,rfl⟩:=hget i e' he
        obtain ⟨g1,g2,g3,g4⟩:=hf i hi
        have hj:j<ty'.cells:=by
         have:=(List.getElem?_eq_some_iff.1 hc).1
         rwa [g1.len]at this
        have h6:(f i).2[j]? = some ((f i).2[j]'(by omega)):=List.getElem?_eq_getElem _
        rw[h6]
        exact g2.2 j c _ hc h6)
      rwa [hlen']at this
  ·rename_i fs hu
   simp only[Bool.and_eq_true,beq_iff_eq]at hok
   obtain ⟨h1,h2⟩:=hok
   obtain ⟨xs,n,_,_,hl,hlen,hf⟩:=DataW.trod_struct hu h
   have:=open_go hR m ih n cs fs.toList 0 _ h1 (fun f hf'=>by
    obtain ⟨i,hi,rfl⟩:=List.getElem_of_mem hf'
    have h5:=hf i fs.toList[i] (by simp)
    rw[h5,List.getElem?_eq_getElem (by simpa [hlen] using hi)]
    exact ⟨_,rfl⟩) (by rw[hl,h2];omega)
   simpa using this
  ·exact absurd hok (by simp)
theorem open_cell {S:Nat→Prop} {ty:Ty} {t:TypeId} {v:Value} {d:DataW H} {ps:List MemPlace} {m:Nat} (hok:okTy P m t ty=true) (hv:v.cells.toList=[v]) (h:DataW.Trod enc P w base spare held t v d ps) :
  ∃ a,HasL ty [a]∧CA w.heap.size S ⟨fun _ _=>none,Own.emp,w⟩ a v:=by
 obtain ⟨fuel,hf⟩:=h
 rw[hv]at hf
 obtain ⟨as,h1,h2⟩:=open_any (R:=safe w.heap.size S ⟨fun _ _=>none,Own.emp,w⟩) (fun b hb=>Or.inr (Or.inr ⟨rfl,hb⟩)) m ty t [v] fuel _ hok hf
 obtain ⟨a,rfl⟩ : ∃ a,as=[a]:=by
  have:=h2.1
  match as,this with
  | [a],_=>exact ⟨a,rfl⟩
 exact ⟨a,h1,.one (.rd (h2.2 0 a v rfl rfl))⟩
end
theorem args_nil {B:Nat} {S:Nat→Prop} {m:M} : ∀ (j:Nat) (c:AV) (v:Value),([]:List AV)[j]? = some c→([]:List Value)[j]? = some v→CA B S m c v:=fun j c v h=>by simp at h
theorem args_cons {B:Nat} {S:Nat→Prop} {m:M} {a:AV} {u:Value} {as:List AV} {us:List Value} (h:CA B S m a u) (hr : ∀ (j:Nat) (c:AV) (v:Value),as[j]? = some c→us[j]? = some v→CA B S m c v) :
  ∀ (j:Nat) (c:AV) (v:Value),(a::as)[j]? = some c→(u::us)[j]? = some v→CA B S m c v
 | 0,c,v,h1,h2=>by simp at h1 h2;subst h1 h2;exact h
 | j+1,c,v,h1,h2=>hr j c v (by simpa using h1) (by simpa using h2)
theorem law_calls {P:Program} {num:Nat→Nat} {L:Lib} (hP:ProgOK P num L) {f:Nat} {vs:List AV} (h:Ev L f vs (.bool true)) {S:Nat→Prop} {w:World} {us:List Value} (hl:vs.length=us.length)
  (ha : ∀ (j:Nat) (c:AV) (v:Value),vs[j]? = some c→us[j]? = some v→CA w.heap.size S ⟨fun _ _=>none,Own.emp,w⟩ c v) :
  Calls P (num f) us.toArray w fun e w'=>e = .returned (.bool true)∧Below w.heap.size w w':=by
 obtain ⟨n,hn⟩:=h
 refine ((calls_ok hP n).pure f vs _ hn S w us hl ha).mono ?_
 rintro e w' ⟨u,rfl,hb,hcv,_⟩
 refine ⟨?_,hb⟩
 cases hcv with
 | ca hca=>cases hca with
  | one hcc=>cases hcc with
   | rd hrd=>cases hrd;rfl
end Go.Eng

namespace Go.Eng
abbrev tI:Ty := .int .i64
end Go.Eng

namespace Go.Eng
end Go.Eng



namespace Go.Eng
open F
attribute [local irreducible] AKM CmpP Req OpP UnP ConvP RdP LdR StR MkR LenP AppR AppN CpyR RowP SnR Bds SlS CallP CalP FinP pw LdM GetM SetM PutM MkM AppM SnM FlP CallR
set_option maxHeartbeats 1000000
variable {L:Lib}
theorem toB_range {b:Int} (hb:0≤b) (v:Int) : -b≤toB b v∧toB b v≤b:=by
 have:=with_range (v:=IntKind.i64.wrap (v+b)) (m:=2*b+1) (by omega)
 unfold toB
 omega
theorem below_FT {c:Wd} (hc:WV c) (l:List Int) (n:Nat) : ∀ v∈belowS (pw (c.b-1)-1) l n,FT c v∧FT c (-v):=by
 intro v hv
 obtain ⟨h1,h2,h3,h4⟩:=low_high hc
 simp only[belowS,List.mem_map]at hv
 obtain ⟨i,_,rfl⟩:=hv
 have:=toB_range (b:=pw (c.b-1)-1) (by omega) (atS l i)
 exact ⟨⟨hc,by omega,by omega⟩,⟨hc,by omega,by omega⟩⟩
theorem below_len (b:Int) (l:List Int) (n:Nat):(belowS b l n).length=n:=by simp [belowS]
end Go.Eng

namespace Go.Eng
variable {d c:Wd} {p:List Int}
end Go.Eng

namespace Go.Eng
open F
attribute [local irreducible] AKM CmpP Req OpP UnP ConvP RdP LdR StR MkR LenP AppR AppN CpyR RowP SnR Bds SlS CallP CalP FinP pw LdM GetM SetM PutM MkM AppM SnM FlP CallR
set_option maxHeartbeats 1000000
variable {L:Lib}
end Go.Eng

namespace Go.Eng
variable {d c:Wd} {p:List Int}
theorem range_split (n:Nat):List.range n=List.range' 0 n:=List.range_eq_range'
end Go.Eng

namespace Go.Eng
open F
attribute [local irreducible] AKM CmpP Req OpP UnP ConvP RdP LdR StR MkR LenP AppR AppN CpyR RowP SnR Bds SlS CallP CalP FinP pw LdM GetM SetM PutM MkM AppM SnM FlP CallR
set_option maxHeartbeats 1000000
variable {L:Lib} {d c:Wd} {p:List Int}
theorem termB_unit {s:Int} {k:Nat} {fr:Int} (h:0≤fr∧fr≤s+k) : ∀ t∈rowD [pw c.f] 1 fr,termB c s k t=true:=by
 intro t ht
 obtain ⟨i,v,hv,hi,rfl⟩:=mem_rowD ht
 simp only[List.mem_singleton]at hv
 simp only[List.length_cons,List.length_nil]at hi
 subst hv
 exact decide_eq_true ⟨by simp only;omega,by simp only;omega,Or.inl (by simp)⟩
theorem termB_row {s:Int} {k:Nat} {fr:Int} {l:List Int} (hl : ∀ v∈l,FT c v) (h:0≤fr∧fr+l.length≤s+k+1) : ∀ t∈rowD l 1 fr,termB c s k t=true:=by
 intro t ht
 obtain ⟨i,v,hv,hi,rfl⟩:=mem_rowD ht
 exact decide_eq_true ⟨by simp only;omega,by simp only;omega,Or.inr (by simpa using hl v hv)⟩
theorem nodes_all {s:Int} {f:Nat→Nd} : ∀ (m k:Nat),(∀ i,k≤i→i<k+m→(f i).ts.length≤64 ∧ ∀ t∈(f i).ts,termB c s i t=true)→nodesB c s k ((List.range' k m).map f)=true
 | 0,_,_=>rfl
 | m+1,k,h=>by
  rw[List.range'_succ,List.map_cons,nodesB,nodes_all m (k+1) fun i h1 h2=>h i (by omega) (by omega)]
  have:=h k (by omega) (by omega)
  simp only[Bool.and_true,Bool.and_eq_true,decide_eq_true_eq,List.all_eq_true]
  exact this
end Go.Eng

namespace Go.Eng
open F
attribute [local irreducible] AKM CmpP Req OpP UnP ConvP RdP LdR StR MkR LenP AppR AppN CpyR RowP SnR Bds SlS CallP CalP FinP pw LdM GetM SetM PutM MkM AppM SnM FlP CallR
set_option maxHeartbeats 8000000
variable {L:Lib}
section
variable {b a:List Int} {d c:Wd}
theorem termB_neg {s:Int} {k:Nat} {fr:Int} {l:List Int} (hl : ∀ v∈l,FT c (-v)) (h:0≤fr∧fr+l.length≤s+k+1) : ∀ t∈rowD l (-1) fr,termB c s k t=true:=by
 intro t ht
 obtain ⟨i,v,hv,hi,rfl⟩:=mem_rowD ht
 exact decide_eq_true ⟨by simp only;omega,by simp only;omega,Or.inr (by simpa using hl v hv)⟩
theorem two_netU (hd:WV d) (hc:WV c) (l1:1≤b.length∧b.length≤49) (l2:a.length≤8) (hb : ∀ v∈b,FT c v) (ha : ∀ v∈a,FT c v∧FT c (-v)):netB (formTwoS b a d c)=true:=by
 have hm1:b.length-1≤maxN b a:=Nat.le_max_left _ _
 have hm2:a.length≤maxN b a:=Nat.le_max_right _ _
 have hm3:maxN b a≤48:=by unfold maxN;omega
 rw[netB_iff]
 refine ⟨hd,hc,⟨by simp only[formTwoS];omega,by simp only[formTwoS];omega,by simp [formTwoS],by simp [formTwoS,delayS]⟩,?_,?_,by simp only[formTwoS];omega,by simp only[formTwoS,List.length_cons,List.length_nil];omega⟩
 ·simp only[formTwoS,nodesB,Bool.and_true,Bool.and_eq_true,decide_eq_true_eq,List.all_eq_true]
  refine ⟨⟨by simp [rowD_len];omega,fun t ht => ?_⟩,by simp [rowD_len];omega,fun t ht => ?_⟩
  ·rcases List.mem_append.1 ht with h|h
   ·exact termB_unit (by omega) t h
   ·exact termB_neg (fun v hv=>(ha v hv).2) (by omega) t h
  ·rcases List.mem_append.1 ht with h|h
   ·exact termB_row (fun v hv=>hb v (List.mem_of_mem_take hv)) (by simp only[List.length_take];omega) t h
   ·exact termB_row (fun v hv=>hb v (List.mem_of_mem_drop hv)) (by simp only[List.length_drop];omega) t h
 ·simp only[formTwoS,nextB,List.all_eq_true,decide_eq_true_eq,List.length_cons,List.length_nil]
  intro k hk
  rcases mem_delayS hk with rfl|⟨i,h1,h2,rfl⟩<;>(first|omega|(refine decide_eq_true ?_;omega))
theorem tK_mem {mx k:Nat} {t:Int × Int} (h:t∈tK b a c mx k):(k<b.length∧t.1=0∧t.2∈b)∨(1≤k∧k≤a.length∧t.1=1+(mx:Int) ∧ -t.2∈a)∨(k<mx∧t.1=(k:Int)+1∧t.2=pw c.f):=by
 unfold tK at h
 rcases List.mem_append.1 h with h|h
 ·rcases List.mem_append.1 h with h|h
  ·split at h
   ·rename_i hk
    obtain rfl:=List.mem_singleton.1 h
    refine Or.inl ⟨hk,rfl,?_⟩
    show b.getD k 0∈b
    rw[List.getD_eq_getElem?_getD,List.getElem?_eq_getElem hk]
    exact List.getElem_mem hk
   ·cases h
  ·split at h
   ·rename_i hk
    obtain rfl:=List.mem_singleton.1 h
    refine Or.inr (Or.inl ⟨hk.1,hk.2,rfl,?_⟩)
    show - -(a.getD (k-1) 0)∈a
    rw[Int.neg_neg,List.getD_eq_getElem?_getD,List.getElem?_eq_getElem (show k-1<a.length by omega)]
    exact List.getElem_mem _
   ·cases h
 ·split at h
  ·rename_i hk
   obtain rfl:=List.mem_singleton.1 h
   exact Or.inr (Or.inr ⟨hk,rfl,rfl⟩)
  ·cases h
theorem tK_len3 (mx k:Nat):(tK b a c mx k).length≤3:=by
 unfold tK
 split<;>split<;>split<;>simp
theorem tr_netU (hd:WV d) (hc:WV c) (l1:1≤b.length∧b.length≤49) (l2:a.length≤8) (hb : ∀ v∈b,FT c v) (ha : ∀ v∈a,FT c v∧FT c (-v)):netB (transS b a d c)=true:=by
 have hm1:b.length-1≤maxN b a:=Nat.le_max_left _ _
 have hm2:a.length≤maxN b a:=Nat.le_max_right _ _
 have hm3:maxN b a≤48:=by unfold maxN;omega
 rw[netB_iff]
 refine ⟨hd,hc,⟨by simp only[transS];omega,by simp only[transS];omega,by simp [transS,trN];omega,by simp [transS]⟩,?_,?_,by simp only[transS];omega,by simp [transS,trN];omega⟩
 ·simp only[transS,trN]
  rw[range_split]
  refine nodes_all _ _ fun i _ hi => ?_
  simp only[trS_eq]
  refine ⟨by have:=tK_len3 (b:=b) (a:=a) (c:=c) (maxN b a) i;omega,fun t ht => ?_⟩
  refine decide_eq_true ?_
  rcases tK_mem ht with ⟨h1,h2,h3⟩|⟨h1,h2,h3,h4⟩|⟨h1,h2,h3⟩
  ·exact ⟨by omega,by omega,Or.inr (hb _ h3)⟩
  ·exact ⟨by omega,by omega,Or.inr (by simpa using (ha _ h4).2)⟩
  ·exact ⟨by omega,by omega,Or.inl h3⟩
 ·simp only[transS,trN,nextB,List.all_eq_true,decide_eq_true_eq,List.mem_map,List.mem_range,List.length_map,List.length_range]
  rintro k ⟨i,hi,rfl⟩
  omega
theorem pw_small (hc:WV c):(pw c.f).natAbs≤2^24:=by
 unfold WV at hc
 have hpl:=pw_le (n:=c.f) (m:=23) (by omega)
 have hp23:pw 23=8388608:=by unfold pw;rfl
 have:=pw_pos c.f
 show _≤16777216
 omega
theorem row_small {l:List Int} {sg fr:Int} (hs:sg=1∨sg = -1) (hl : ∀ v∈l,FT c v) : ∀ t∈rowD l sg fr,t.2.natAbs≤2^24:=by
 intro t ht
 obtain ⟨i,v,hv,hi,rfl⟩:=mem_rowD ht
 have:=FT_le (hl v hv)
 show (sg*v).natAbs≤16777216
 rcases hs with rfl|rfl<;>omega
theorem unit_small (hc:WV c) {fr:Int} : ∀ t∈rowD [pw c.f] 1 fr,t.2.natAbs≤2^24:=by
 intro t ht
 obtain ⟨i,v,hv,hi,rfl⟩:=mem_rowD ht
 obtain rfl:=List.mem_singleton.1 hv
 show (1*pw c.f).natAbs≤_
 rw[Int.one_mul]
 exact pw_small hc
theorem one_small (l1:b.length≤3) (l2:a.length≤2) (hb : ∀ v∈b,FT c v) (ha : ∀ v∈a,FT c v∧FT c (-v)):SmallN (tsOf (formOneS b a d c)):=by
 constructor
 ·intro ts h
  simp only[tsOf,formOneS,List.map_cons,List.map_nil,List.mem_singleton]at h
  subst h
  simp only[List.length_append,rowD_len];omega
 ·intro ts h
  simp only[tsOf,formOneS,List.map_cons,List.map_nil,List.mem_singleton]at h
  subst h
  intro t ht
  rcases List.mem_append.1 ht with h|h
  ·exact row_small (Or.inl rfl) hb t h
  ·exact row_small (Or.inr rfl) (fun v hv=>(ha v hv).1) t h
theorem two_small (hc:WV c) (l1:b.length≤3) (l2:a.length≤2) (hb : ∀ v∈b,FT c v) (ha : ∀ v∈a,FT c v∧FT c (-v)):SmallN (tsOf (formTwoS b a d c)):=by
 constructor
 ·intro ts h
  simp only[tsOf,formTwoS,List.map_cons,List.map_nil,List.mem_cons,List.not_mem_nil,or_false]at h
  rcases h with rfl|rfl
  all_goals simp only[List.length_append,rowD_len,List.length_take,List.length_drop,List.length_cons,List.length_nil];omega
 ·intro ts h
  simp only[tsOf,formTwoS,List.map_cons,List.map_nil,List.mem_cons,List.not_mem_nil,or_false]at h
  intro t ht
  rcases h with rfl|rfl
  ·rcases List.mem_append.1 ht with h|h
   ·exact unit_small hc t h
   ·exact row_small (Or.inr rfl) (fun v hv=>(ha v hv).1) t h
  ·rcases List.mem_append.1 ht with h|h
   ·exact row_small (Or.inl rfl) (fun v hv=>hb v (List.mem_of_mem_take hv)) t h
   ·exact row_small (Or.inl rfl) (fun v hv=>hb v (List.mem_of_mem_drop hv)) t h
theorem tr_small (hc:WV c) (hb : ∀ v∈b,FT c v) (ha : ∀ v∈a,FT c v∧FT c (-v)):SmallN (tsOf (transS b a d c)):=by
 have key : ∀ ts∈tsOf (transS b a d c),∃ i,ts=tK b a c (maxN b a) i:=by
  intro ts h
  simp only[tsOf,transS,trN,List.map_map,List.mem_map]at h
  obtain ⟨i,_,rfl⟩:=h
  exact ⟨i,trS_eq _ _ _ _ _⟩
 constructor
 ·intro ts h
  obtain ⟨i,rfl⟩:=key ts h
  have:=tK_len3 (b:=b) (a:=a) (c:=c) (maxN b a) i
  omega
 ·intro ts h t ht
  obtain ⟨i,rfl⟩:=key ts h
  rcases tK_mem ht with ⟨h1,h2,h3⟩|⟨h1,h2,h3,h4⟩|⟨h1,h2,h3⟩
  ·have:=FT_le (hb _ h3)
   show _≤16777216
   omega
  ·have:=FT_le (ha _ h4).1
   show _≤16777216
   omega
  ·rw[h3];exact pw_small hc
theorem num_fracs (hc:WV c) (l:List Int):numQ c l=fracs ((pw c.f:Int):Rat) l:=by
 refine List.map_congr_left fun v _ => ?_
 obtain ⟨e,he⟩:=Int.eq_ofNat_of_zero_le (show 0≤pw c.f by have:=pw_pos c.f;omega)
 rw[he,Rat.divInt_ofNat,Rat.mkRat_eq_div];rfl
theorem frac_bt (hc:WV c) (hb9:c.b≤9) {v:Int} (hv:FT c v):Bt 9 ((v:Rat)/((pw c.f:Int):Rat)):=by
 obtain ⟨h1,h2,h3,h4⟩:=low_high hc
 have hc':=hc
 unfold WV at hc'
 have p8:pw 8=256:=by unfold pw;rfl
 have e1:=pw_le (n:=c.f) (m:=8) (by omega)
 have e2:=pw_le (n:=c.b-1) (m:=8) (by omega)
 have e3:=pw_pos c.f
 obtain ⟨_,f1,f2⟩:=hv
 obtain ⟨e,he⟩:=Int.eq_ofNat_of_zero_le (show 0≤pw c.f by omega)
 rw[he]at e1 ⊢
 have:((v:Int):Rat)/((e:Int):Rat)=mkRat v e:=by rw[Rat.mkRat_eq_div];rfl
 rw[this]
 refine Bt.mk ?_ ?_
 ·show _≤512;omega
 ·show _≤512;omega
theorem wrong_no (hd:WV d) (hc:WV c) (l1:1≤b.length∧b.length≤49) (l2:a.length≤8) (hb : ∀ v∈b,FT c v) (ha : ∀ v∈a,FT c v∧FT c (-v)):wrongD b a d c=0:=by
 rw[wrongD,if_pos ⟨hd,hc⟩,if_neg (by omega),if_pos]
 simp only[Bool.and_eq_true,wordsB,List.all_eq_true,decide_eq_true_eq]
 refine ⟨hb,fun v hv=>(ha v hv).1,fun v hv => ?_⟩
 obtain ⟨w,hw,rfl⟩:=List.mem_map.1 hv
 exact (ha w hw).2
end
structure FormIs (n:Nt) (m:Nat) (c:Wd) (P Q:List Int):Prop where
 net:netB n=true
 sm:SmallN (tsOf n)
 nl:n.nodes.length≤4
 ok:(linQ n).Ok m 80
 m4:m≤4
 ta:tfA (linQ n) m=trimQ (1::numQ c Q)
 tb:tfB (linQ n) m=trimQ (numQ c P)
theorem ev_form23 (I:FixedLib L) (W:WorldLib L) (N:LawVLib L) (kd dk ck:Int) (h0:InI kd) (h1:InI dk) (h2:InI ck) (b a:List Int) (q1 q2:Bool) (lb:b.length<9223372036854775808) (la:a.length<9223372036854775808) :
  ∃ (n:Nt) (m:Nat) (c:Wd) (P Q:List Int),FormIs n m c P Q∧WV c∧(∀ v∈P,FT c v)∧(∀ v∈Q,FT c v)∧P.length≤3∧Q.length≤2 ∧
   Ev L 217 [.int .i64 kd,.int .i64 dk,.int .i64 ck,.sl q1 (b.map encInt),.sl q2 (a.map encInt)] (.tup [.agg (encN n),.agg [.sl false ((trimQ (numQ c P)).map eQ),.sl false ((trimQ (1::numQ c Q)).map eQ)],.int .i64 0]):=by
 have D:DirectGLib L:=N.toDirectGLib
 obtain ⟨hdw,hd1,hd2⟩:=data_ok dk
 obtain ⟨hcw,hc1,hc2⟩:=coef_ok ck
 have hk0:=with_range (v:=kd) (m:=3) (by omega)
 have hk1:=with_range (v:=(b.length:Int)) (m:=3) (by omega)
 have hk2:=with_range (v:=(a.length:Int)) (m:=3) (by omega)
 have eb:=fun q=>ev_world_Below W (pw ((coefS ck).b-1)-1) (by have:=low_high hcw;omega) b q (1+withS b.length 3).toNat (by omega)
 have ea:=fun q=>ev_world_Below W (pw ((coefS ck).b-1)-1) (by have:=low_high hcw;omega) a q (withS a.length 3).toNat (by omega)
 rw[Int.toNat_of_nonneg (by omega)]at eb ea
 have w0:=ev_world_Within W kd 3 h0 (by omega)
 have w1:=ev_world_Within W b.length 3 (by unfold InI;omega) (by omega)
 have w2:=ev_world_Within W a.length 3 (by unfold InI;omega) (by omega)
 have wd:=ev_world_Data W dk h1
 have wc:=ev_world_Coef W ck h2
 have lP:(belowS (pw ((coefS ck).b-1)-1) b (1+withS b.length 3).toNat).length=(1+withS b.length 3).toNat:=below_len _ _ _
 have lQ:(belowS (pw ((coefS ck).b-1)-1) a (withS a.length 3).toNat).length=(withS a.length 3).toNat:=below_len _ _ _
 have hP:=below_FT hcw b (1+withS b.length 3).toNat
 have hQ:=below_FT hcw a (withS a.length 3).toNat
 generalize belowS (pw ((coefS ck).b-1)-1) b (1+withS b.length 3).toNat=P at *
 generalize belowS (pw ((coefS ck).b-1)-1) a (withS a.length 3).toNat=Q at *
 generalize coefS ck=c at *
 generalize dataS dk=d at *
 have hb : ∀ v∈P,FT c v:=fun v h=>(hP v h).1
 have hw:=wrong_no hcw hcw (by omega) (by omega) hb hQ
 have hI:=fun q q'=>ev_Ideal I N.toBldGLib q q' (okD_of _ _ _ _ hw) hw
 have hu:((pw c.f:Int):Rat)≠0:=by
  intro e
  have:pw c.f=0:=by exact_mod_cast e
  have:=pw_pos c.f
  omega
 have bP : ∀ v∈P,Bt 9 ((v:Rat)/((pw c.f:Int):Rat)):=fun v hv=>frac_bt hcw hc2 (hb v hv)
 have bQ : ∀ v∈Q,Bt 9 ((v:Rat)/((pw c.f:Int):Rat)):=fun v hv=>frac_bt hcw hc2 (hQ v hv).1
 have sP:Bs 9 (fracs ((pw c.f:Int):Rat) P):=fun x hx=>by
  obtain ⟨v,hv,rfl⟩:=List.mem_map.1 hx
  exact bP v hv
 have sQ:Bs 9 (1::fracs ((pw c.f:Int):Rat) Q):=Bs.cons0 (Bt.one 9) fun x hx=>by
  obtain ⟨v,hv,rfl⟩:=List.mem_map.1 hx
  exact bQ v hv
 have fl : ∀ l:List Int,(fracs ((pw c.f:Int):Rat) l).length=l.length:=fun l=>by simp [fracs]
 have lP1:1≤P.length∧P.length≤3:=by omega
 have lQ1:Q.length≤2:=by omega
 have hcase:withS kd 3=0∨withS kd 3=1∨withS kd 3=2:=by omega
 have hmx:maxN P Q≤2:=by unfold maxN;omega
 have hm1:P.length-1≤maxN P Q:=Nat.le_max_left _ _
 have hm2:Q.length≤maxN P Q:=Nat.le_max_right _ _
 rcases hcase with hk|hk|hk
 ·have ef:=fun q q'=>ev_direct_FormOne I D P Q q q' d c hdw hcw (by omega) (by omega) hb hQ
  obtain ⟨g1,g2,g3⟩:=one_good P Q d c _ hu rfl lP1 lQ1 (fun v hv=>(bP v hv).le (by omega)) (fun v hv=>(bQ v hv).le (by omega))
  have hF:FormIs (formOneS P Q d c) (P.length-1+Q.length) c P Q:=⟨form_net hdw hcw (by omega) (by omega) hb hQ,one_small (by omega) (by omega) hb hQ,by simp [formOneS],g1,by omega,by rw[g2,num_fracs hcw],by rw[g3,num_fracs hcw]⟩
  refine ⟨_,_,c,P,Q,hF,hcw,hb,fun v h=>(hQ v h).1,lP1.2,lQ1,?_⟩
  have hcl:=(ef false false).clean
  generalize formOneS P Q d c=n at *
  rw[hk]at w0
  refine Ev.x N.law23_form rfl rfl ?_
  (repeat' (first|(refine CmpP.go (fun hc => ?_) (fun hc => ?_)<;>first|(exfalso;omega)|(conv=>whnf))|(refine OpP.add ?_ ?_;omega;conv=>whnf)|(refine OpP.sub ?_ ?_;omega;conv=>whnf)|(refine OpP.shl1 ?_ (fun _ _ => ?_);omega;conv=>whnf)|(refine ConvP.u64 ?_ ?_;omega;conv=>whnf)|(refine LenP.go ?_;conv=>whnf)|(refine AKM.x ?_;conv=>whnf)|(refine CallP.go (wd) ?_;conv=>whnf)|(refine CallP.go (wc) ?_;conv=>whnf)|(refine CallP.go (w0) ?_;conv=>whnf)|(refine CallP.go (w1) ?_;conv=>whnf)|(refine CallP.go (w2) ?_;conv=>whnf)|(refine CallP.go (eb _) ?_;conv=>whnf)|(refine CallP.go (ea _) ?_;conv=>whnf)|(refine CallP.go (hI _ _) ?_;conv=>whnf)|(refine CallP.go (ef _ _) ?_;conv=>whnf)))
  exact FinP.go rfl (by
   simp only[Clean,CleanL,true_and,and_true]at hcl ⊢
   exact ⟨hcl,cl_eQs _,cl_eQs _⟩)
 ·have ef:=fun q q'=>ev_direct_FormTwo I D P Q q q' d c hdw hcw (by omega) (by omega) hb hQ
  have e:=two_eq P Q d c _ hu rfl lP1 lQ1
  obtain ⟨g2,g3⟩:=ctl_tfU (n:=maxN P Q) (B:=fracs ((pw c.f:Int):Rat) P) (A:=1::fracs ((pw c.f:Int):Rat) Q) (by rw[List.length_cons,fl];omega) (by rw[fl];omega) rfl (by omega)
  have g1:=ctl_okK (n:=maxN P Q) sP sQ (by omega)
  rw[←e]at g1 g2 g3
  have hF:FormIs (formTwoS P Q d c) (maxN P Q) c P Q:=⟨two_netU hdw hcw (by omega) (by omega) hb hQ,two_small hcw (by omega) (by omega) hb hQ,by simp [formTwoS],g1,by omega,by rw[g2,num_fracs hcw],by rw[g3,num_fracs hcw]⟩
  refine ⟨_,_,c,P,Q,hF,hcw,hb,fun v h=>(hQ v h).1,lP1.2,lQ1,?_⟩
  have hcl:=(ef false false).clean
  generalize formTwoS P Q d c=n at *
  rw[hk]at w0
  refine Ev.x N.law23_form rfl rfl ?_
  (repeat' (first|(refine CmpP.go (fun hc => ?_) (fun hc => ?_)<;>first|(exfalso;omega)|(conv=>whnf))|(refine OpP.add ?_ ?_;omega;conv=>whnf)|(refine OpP.sub ?_ ?_;omega;conv=>whnf)|(refine OpP.shl1 ?_ (fun _ _ => ?_);omega;conv=>whnf)|(refine ConvP.u64 ?_ ?_;omega;conv=>whnf)|(refine LenP.go ?_;conv=>whnf)|(refine AKM.x ?_;conv=>whnf)|(refine CallP.go (wd) ?_;conv=>whnf)|(refine CallP.go (wc) ?_;conv=>whnf)|(refine CallP.go (w0) ?_;conv=>whnf)|(refine CallP.go (w1) ?_;conv=>whnf)|(refine CallP.go (w2) ?_;conv=>whnf)|(refine CallP.go (eb _) ?_;conv=>whnf)|(refine CallP.go (ea _) ?_;conv=>whnf)|(refine CallP.go (hI _ _) ?_;conv=>whnf)|(refine CallP.go (ef _ _) ?_;conv=>whnf)))
  exact FinP.go rfl (by
   simp only[Clean,CleanL,true_and,and_true]at hcl ⊢
   exact ⟨hcl,cl_eQs _,cl_eQs _⟩)
 ·have ef:=fun q q'=>ev_direct_Transposed I D P Q q q' d c hdw hcw (by omega) (by omega) hb hQ
  have e:=tr_eq P Q d c _ hu rfl lP1 lQ1
  obtain ⟨g2,g3⟩:=obs_tfU (n:=maxN P Q) (B:=fracs ((pw c.f:Int):Rat) P) (A:=1::fracs ((pw c.f:Int):Rat) Q) (by rw[List.length_cons,fl];omega) (by rw[fl];omega) rfl (by omega)
  have g1:=obs_okK (ctl_okK (n:=maxN P Q) sP sQ (by omega))
  rw[←e]at g1 g2 g3
  have hF:FormIs (transS P Q d c) (maxN P Q) c P Q:=⟨tr_netU hdw hcw (by omega) (by omega) hb hQ,tr_small hcw hb hQ,by simp [transS,trN];omega,g1,by omega,by rw[g2,num_fracs hcw],by rw[g3,num_fracs hcw]⟩
  refine ⟨_,_,c,P,Q,hF,hcw,hb,fun v h=>(hQ v h).1,lP1.2,lQ1,?_⟩
  have hcl:=(ef false false).clean
  generalize transS P Q d c=n at *
  rw[hk]at w0
  refine Ev.x N.law23_form rfl rfl ?_
  (repeat' (first|(refine CmpP.go (fun hc => ?_) (fun hc => ?_)<;>first|(exfalso;omega)|(conv=>whnf))|(refine OpP.add ?_ ?_;omega;conv=>whnf)|(refine OpP.sub ?_ ?_;omega;conv=>whnf)|(refine OpP.shl1 ?_ (fun _ _ => ?_);omega;conv=>whnf)|(refine ConvP.u64 ?_ ?_;omega;conv=>whnf)|(refine LenP.go ?_;conv=>whnf)|(refine AKM.x ?_;conv=>whnf)|(refine CallP.go (wd) ?_;conv=>whnf)|(refine CallP.go (wc) ?_;conv=>whnf)|(refine CallP.go (w0) ?_;conv=>whnf)|(refine CallP.go (w1) ?_;conv=>whnf)|(refine CallP.go (w2) ?_;conv=>whnf)|(refine CallP.go (eb _) ?_;conv=>whnf)|(refine CallP.go (ea _) ?_;conv=>whnf)|(refine CallP.go (hI _ _) ?_;conv=>whnf)|(refine CallP.go (ef _ _) ?_;conv=>whnf)))
  exact FinP.go rfl (by
   simp only[Clean,CleanL,true_and,and_true]at hcl ⊢
   exact ⟨hcl,cl_eQs _,cl_eQs _⟩)
theorem ev_law23_DirectTransfers (I:FixedLib L) (J:NetLib L) (W:WorldLib L) (R:RunGLib L) (N:LawVLib L) (kd dk ck:Int) (h0:InI kd) (h1:InI dk) (h2:InI ck) (b a:List Int) (q1 q2:Bool) (lb:b.length<9223372036854775808) (la:a.length<9223372036854775808) :
  Ev L 218 [.int .i64 kd,.int .i64 dk,.int .i64 ck,.sl q1 (b.map encInt),.sl q2 (a.map encInt)] (.bool true):=by
 have hK:=ev_law23_known I J R N.toDirectGLib
 obtain ⟨n,m,c,P,Q,hF,hcw,hP,hQ,lP,lQ,hf⟩:=ev_form23 I W N kd dk ck h0 h1 h2 b a q1 q2 lb la
 have hL:=ev_Linear I N.toLinGLib n hF.net hF.sm hF.nl
 have hT:=ev_Transfer N.toTrGLib (linQ n) m hF.ok hF.m4
 rw[hF.ta,hF.tb]at hT
 have bP:Bs 64 (numQ c P):=num_bs hcw fun v hv=>by have:=FT_le (hP v hv);omega
 have bQ:Bs 64 (1::numQ c Q):=Bs.cons0 (Bt.one 64) (num_bs hcw fun v hv=>by have:=FT_le (hQ v hv);omega)
 have t1:=trim_le (numQ c P)
 have t2:=trim_le (1::numQ c Q)
 have n1:=numQ_len c P
 have n2:=numQ_len c Q
 rw[List.length_cons]at t2
 have hS:=ev_SameFilters N.toBldGLib (trimQ (numQ c P)) (trimQ (1::numQ c Q)) 64 bP.trim bQ.trim (by omega) (by omega) (by omega)
 generalize trimQ (numQ c P)=B at *
 generalize trimQ (1::numQ c Q)=A at *
 generalize linQ n=S at *
 refine Ev.x N.law23_DirectTransfers rfl rfl ?_
 (repeat' (first|(refine CmpP.go (fun hc => ?_) (fun hc => ?_)<;>first|(exfalso;omega)|(conv=>whnf))|(refine AKM.x ?_;conv=>whnf)|(refine CallP.go (hf) ?_;conv=>whnf)|(refine CallP.go (hL) ?_;conv=>whnf)|(refine CallP.go (hT) ?_;conv=>whnf)|(refine CallP.go (hK) ?_;conv=>whnf)|(refine CallP.go (hS) ?_;conv=>whnf)))
 exact FinP.b rfl
end Go.Eng

namespace Go.Eng
theorem list_ofR {α:Type} {enc:α→List AV} {p:α→Prop} : ∀ {es:List (List AV)},(∀ x∈es,∃ y,x=enc y∧p y) → ∃ l:List α,es=l.map enc ∧ ∀ y∈l,p y
 | [],_=>⟨[],rfl,by simp⟩
 | e::es,h=>by
  obtain ⟨y,rfl,hy⟩:=h e List.mem_cons_self
  obtain ⟨l,rfl,hl⟩:=list_ofR (enc:=enc) (p:=p) fun x hx=>h x (List.mem_cons_of_mem _ hx)
  exact ⟨y::l,rfl,by simpa using ⟨hy,hl⟩⟩
theorem has_slR {α:Type} {enc:α→List AV} {p:α→Prop} {e:Ty} {cs:List AV} (he : ∀ x,HasL e x → ∃ y,x=enc y∧p y) (h:HasL (.sl e) cs) : ∃ l:List α,cs=[.sl true (l.map enc)]∧l.length<9223372036854775808 ∧ ∀ y∈l,p y:=by
 obtain ⟨es,rfl,hl,hx⟩:=h
 obtain ⟨l,rfl,hp⟩:=list_ofR (enc:=enc) (p:=p) fun x hm=>he x (hx x hm)
 refine ⟨l,rfl,?_,hp⟩
 have:maxLen=9223372036854775807:=rfl
 simp at hl
 omega
theorem wf_InR {n:Int} (h:(Lit.int .i64 n).wf=true):InI n:=by
 simp only[Lit.wf,Bool.and_eq_true,decide_eq_true_eq]at h
 have h1:IntKind.i64.min = -9223372036854775808:=rfl
 have h2:IntKind.i64.max=9223372036854775807:=rfl
 rw[h1,h2]at h
 unfold InI
 constructor<;>omega
theorem has_iR {cs:List AV} (h:HasL tI cs) : ∃ n,cs=encInt n∧InI n:=by obtain ⟨n,rfl,hw⟩:=h;exact ⟨n,rfl,wf_InR hw⟩
theorem has_intsR {cs:List AV} (h:HasL (.sl tI) cs) : ∃ l:List Int,cs=[.sl true (l.map encInt)]∧l.length<9223372036854775808 ∧ ∀ v∈l,InI v:=has_slR (fun _=>has_iR) h
end Go.Eng
