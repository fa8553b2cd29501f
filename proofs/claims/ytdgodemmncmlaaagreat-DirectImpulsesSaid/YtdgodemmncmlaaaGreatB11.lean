/-
  Direct forms: Transposed.
-/
import Derived.Test.YtdgodemmncmlaaaGreatB10
import Derived.Test.YtdgodemmncmlaaaGreatB9
import Derived.Test.YtdgodemmncmlaaaGreatB4
import Derived.Test.YtdgodemmncmlaaaGreatB1
import Derived.Test.YtdgodemmncmlaaaGreatB3
import Derived.Test.YtdgodemmncmlaaaGreatB5
import Derived.ProofKit
import Derived.OpenShut
import Derived.ChangeOld
import Derived.WalkKit
import Derived.WideShapes
import Derived.ChangeArms
import Derived.Test.YtdgodemmncmlaaaGreatB8
set_option linter.unusedSimpArgs false
set_option linter.unusedVariables false
set_option linter.unnecessarySimpa false
namespace Go.Eng
open F
attribute [local irreducible] AKM CmpP Req OpP UnP ConvP RdP LdR StR MkR LenP AppR AppN CpyR RowP SnR Bds SlS CallP CalP FinP pw LdM GetM SetM PutM MkM AppM SnM FlP CallR
set_option maxHeartbeats 1000000
variable {L:Lib}
theorem len_app2 {A B C:List (Int × Int)} (h:A.length≤100) (h2:B.length+C.length≤1000):(A++B).length+C.length≤1000000:=by rw[List.length_append];omega
theorem ev_join2 (D:DirectGLib L) (A B:List (Int × Int)) (q q1 q2:Bool) (h:A.length+B.length≤1000000):Ev L 48 [.sl q [[.sl q1 (A.map encT)],[.sl q2 (B.map encT)]]] (.sl false ((A++B).map encT)):=by
 have:=ev_direct_join D [⟨q1,A⟩,⟨q2,B⟩] q (by simpa [joinD] using h) (by simp)
 simpa [joinD] using this
theorem ev_join1 (D:DirectGLib L) (B:List (Int × Int)) (q q1 q2:Bool) (h:B.length≤1000000):Ev L 48 [.sl q [[.sl q1 []],[.sl q2 (B.map encT)]]] (.sl false (B.map encT)):=by
 have:=ev_direct_join D [⟨q1,[]⟩,⟨q2,B⟩] q (by simpa [joinD] using h) (by simp)
 rw[show joinD [⟨q1,[]⟩,⟨q2,B⟩]=B by simp [joinD]]at this
 exact this
def trS (b a:List Int) (c:Wd) (mx k:Nat):List (Int × Int) :=
 (if k<b.length then rowD ((b.take (k+1)).drop k) 1 0 else [])++(if 1≤k∧k≤a.length then rowD ((a.take k).drop (k-1)) (-1) (mx+1) else [])++(if k<mx then rowD [pw c.f] 1 (k+1) else [])
def trN (b a:List Int) (c:Wd) (mx k:Nat):List Nd:=(List.range k).map fun i=>⟨false,trS b a c mx i⟩
def transS (b a:List Int) (d c:Wd):Nt :=
 ⟨d,c,(maxN b a:Int),false,trN b a c (maxN b a) (maxN b a+1),false,(List.range (maxN b a)).map fun i:Nat=>(maxN b a:Int)+1+(i+1:Nat),maxN b a+1⟩
theorem trN_snoc (b a:List Int) (c:Wd) (mx k:Nat):trN b a c mx (k+1)=trN b a c mx k++[⟨false,trS b a c mx k⟩]:=range_snoc _ _
set_option maxHeartbeats 40000000 in
theorem ev_direct_Transposed (I:FixedLib L) (D:DirectGLib L) (b a:List Int) (q1 q2:Bool) (d c:Wd) (hd:WV d) (hc:WV c) (l1:1≤b.length∧b.length≤49) (l2:a.length≤8) (hb : ∀ v∈b,FT c v) (ha : ∀ v∈a,FT c v∧FT c (-v)) :
  Ev L 52 [.sl q1 (b.map encInt),.sl q2 (a.map encInt),.agg (encW d),.agg (encW c)] (.tup [.agg (encN (transS b a d c)),.int .i64 0]):=by
 have hw:=fun q q'=>ev_direct_wrong I D b a q q' d c hd hc l1 l2 hb ha
 have hc':=hc
 unfold WV at hc'
 have hpl:=pw_le (n:=c.f) (m:=23) (by omega)
 have hp23:pw 23=8388608:=by unfold pw;rfl
 have hpp:=pw_pos c.f
 have hx1:b.length≤maxN b a+1:=by unfold maxN;omega
 have hx2:a.length≤maxN b a:=by unfold maxN;omega
 have hx3 : ∀ k,k≤maxN b a→k<b.length∨(1≤k∧k≤a.length):=by unfold maxN;omega
 have ru:=fun (q:Bool) (k:Nat) (hk:k≤1000)=>ev_direct_row D [pw c.f] q 1 (k+1) (by simp) (Or.inl rfl) (by omega) (by simp;omega)
 have rb:=fun (q:Bool) (i j:Nat)=>ev_direct_row D ((b.take j).drop i) q 1 0 (by simp;omega) (Or.inl rfl) (by omega) (fun v hv=>FT_rng hc (hb v (List.mem_of_mem_take (List.mem_of_mem_drop hv))))
 have hmx:(maxN b a:Int)≤1000:=by unfold maxN;omega
 have ra:=fun (q:Bool) (i j:Nat)=>ev_direct_row D ((a.take j).drop i) q (-1) (maxN b a+1) (by simp;omega) (Or.inr rfl) (by omega) (fun v hv=>FT_rng hc (ha v (List.mem_of_mem_take (List.mem_of_mem_drop hv))).1)
 have hS:transS b a d c=⟨d,c,(maxN b a:Int),false,trN b a c (maxN b a) (maxN b a+1),false,(List.range (maxN b a)).map fun i:Nat=>(maxN b a:Int)+1+(i+1:Nat),maxN b a+1⟩:=rfl
 have hcl:=netE_clean (transS b a d c) rfl rfl (by simp [transS,trN])
 refine Ev.x D.direct_Transposed rfl rfl ?_
 (repeat' (first|(refine CmpP.go (fun hc => ?_) (fun hc => ?_)<;>first|(exfalso;omega)|(conv=>whnf))|(refine OpP.add ?_ ?_;omega;conv=>whnf)|(refine OpP.sub ?_ ?_;omega;conv=>whnf)|(refine LenP.go ?_;conv=>whnf)|(refine AKM.x ?_;conv=>whnf)|(refine CallP.go (hw _ _) ?_;conv=>whnf)))
 all_goals first|rw[show (a.length:Int)=(maxN b a:Int) by unfold maxN;omega]|rw[show (b.length:Int)-1=(maxN b a:Int) by unfold maxN;omega]
 all_goals (
  generalize maxN b a=mx at *
  generalize hF:((List.range mx).map fun i:Nat=>(mx:Int)+1+(i+1:Nat))=F at *
  have hFl:F.length=mx:=by rw[←hF];simp
  have hF1 : ∀ i:Nat,i<mx→F[i]? = some ((mx:Int)+1+(i+1:Nat)):=fun i hi=>by
   rw[←hF,List.getElem?_map,List.getElem?_range hi];rfl
  refine MkR.go (enc:=encInt) 0 mx rfl rfl (by omega) ?_
  (conv=>whnf)
  (repeat' (first|(refine OpP.add ?_ ?_;omega;conv=>whnf)|(refine OpP.shl1 ?_ (fun _ _ => ?_);omega;conv=>whnf)))
  refine AKM.loop4 (fun k _ _ _=>mx+1-k) (fun (k:Nat) (ns:List Nd) (o:List Int) (fl:Bool)=>k≤mx+1∧ns=trN b a c mx k∧fl=decide (k=0)∧o.length=F.length∧o.take (k-1)=F.take (k-1)) (fun k ns o fl=>[(47,.int .i64 k)]) (fun k ns o fl=>bif fl then [(38,38,.rw 1 (o.map encInt))] else [(13,13,.bx [.int .i64 d.b,.int .i64 d.f,.int .i64 d.r,.int .i64 d.o,.int .i64 c.b,.int .i64 c.f,.int .i64 c.r,.int .i64 c.o,.int .i64 mx,.row 1000 0 1 0 ns.length,.row 38 0 1 0 mx,.int .i64 (mx+1)]),(1000,106,.rw 1 (ns.map encNd)),(38,38,.rw 1 (o.map encInt))]) [] [] 0 [] (List.replicate mx 0) true (by (conv=>whnf);exact ⟨rfl,rfl,rfl⟩) ⟨by omega,rfl,rfl,by simp [hFl],by simp⟩ ?_
  intro k ns o fl ⟨p1,p2,p3,p4,p5⟩ ih
  by_cases hk:k≤mx
  ·have hkk:=hx3 k hk
   have hts:trS b a c mx k=(if k<b.length then rowD ((b.take (k+1)).drop k) 1 0 else [])++(if 1≤k∧k≤a.length then rowD ((a.take k).drop (k-1)) (-1) (mx+1) else [])++(if k<mx then rowD [pw c.f] 1 (k+1) else []):=rfl
   have rb1:=fun q=>rb q (k:Int).toNat ((k:Int)+1).toNat
   have ra1:=fun q=>ra q ((k:Int)-1).toNat (k:Int).toNat
   have ru1:=fun q=>ru q k (by omega)
   have e1:((k:Int)+1).toNat=k+1:=by omega
   have e2:(k:Int).toNat=k:=by omega
   have e3:((k:Int)-1).toNat=k-1:=by omega
   have hln:(trN b a c mx k).length=k:=by simp [trN]
   have hl1:=rowD_len (List.drop (k:Int).toNat (List.take ((k:Int)+1).toNat b)) 1 0
   have hl2:=rowD_len (List.drop ((k:Int)-1).toNat (List.take (k:Int).toNat a)) (-1) (mx+1)
   have hl3:=rowD_len [pw c.f] 1 (k+1)
   simp only[List.length_drop,List.length_take,List.length_cons,List.length_nil]at hl1 hl2 hl3
   have hnl:ns.length=k:=by rw[p2];exact hln
   have hE : ∀ X,X=trS b a c mx k→[AV.sl false (X.map encT)]=encNd ⟨false,trS b a c mx k⟩:=fun X h=>by rw[h]
   cases fl
   ·have hk1:1≤k:=by
     rcases k with _|k
     ·simp at p3
     ·omega
    (repeat' (first|(refine CmpP.go (fun hc => ?_) (fun hc => ?_)<;>first|(exfalso;omega)|(conv=>whnf))|(refine Req.go ?_ ?_;omega;conv=>whnf)|(refine OpP.add ?_ ?_;omega;conv=>whnf)|(refine OpP.sub ?_ ?_;omega;conv=>whnf)|(refine LenP.go ?_;conv=>whnf)|(refine SlS.go (fun _=>rfl) (Bds.ss ?_ ?_);omega;conv=>whnf)|(refine SnR.e1 rfl ?_;conv=>whnf)|(refine SnR.e2 rfl rfl ?_;conv=>whnf)|(refine SnR.n2 rfl ?_;conv=>whnf)|(refine AKM.x ?_;conv=>whnf)|(refine CallP.go (rb1 _) ?_;conv=>whnf)|(refine CallP.go (ra1 _) ?_;conv=>whnf)|(refine CallP.go (ru1 _) ?_;conv=>whnf)|(refine CallP.go (ev_join1 D _ _ _ _ (by omega)) ?_;conv=>whnf)|(refine CallP.go (ev_join2 D _ _ _ _ _ (by first|omega|exact len_app2 (by omega) (by omega))) ?_;conv=>whnf)))
    all_goals (
     obtain ⟨f1,f2⟩:=fill_step (i:=k-1) p4 p5 (hF1 (k-1) (by omega))
     refine StR.at (k-1) ((mx:Int)+1+((k-1+1:Nat):Int)) (by omega) (by rw[show k-1+1=k by omega]) (fun _=>rfl) (by omega) ?_
     (conv=>whnf)
     (repeat' (refine RowP.e1 ?_;conv=>whnf))
     refine AppR.one (enc:=encNd) ⟨false,trS b a c mx k⟩ (hE _ ?_) rfl rfl (by omega) (by omega) ?_
     ·rw[hts]
      split<;>split<;>split<;>first|(exfalso;omega)|simp only[List.append_nil,List.nil_append,List.append_assoc,e1,e2,e3]
     ·(conv=>whnf)
      (repeat' (refine OpP.add ?_ ?_;omega;conv=>whnf))
      exact AKM.back [(1000,106)] (by (conv=>whnf);exact ⟨rfl,rfl,rfl⟩) (ih (k+1) _ _ false (by omega) ⟨by omega,by rw[trN_snoc,p2],by simp,f1,by rw[show k+1-1=k-1+1 by omega];exact f2⟩))
   ·have hk0:k=0:=by simpa using p3
    (repeat' (first|(refine CmpP.go (fun hc => ?_) (fun hc => ?_)<;>first|(exfalso;omega)|(conv=>whnf))|(refine OpP.add ?_ ?_;omega;conv=>whnf)|(refine LenP.go ?_;conv=>whnf)|(refine SlS.go (fun _=>rfl) (Bds.ss ?_ ?_);omega;conv=>whnf)|(refine RowP.e1 ?_;conv=>whnf)|(refine SnR.e1 rfl ?_;conv=>whnf)|(refine SnR.e2 rfl rfl ?_;conv=>whnf)|(refine SnR.n2 rfl ?_;conv=>whnf)|(refine AKM.x ?_;conv=>whnf)|(refine CallP.go (rb1 _) ?_;conv=>whnf)|(refine CallP.go (ru1 _) ?_;conv=>whnf)|(refine CallP.go (ev_join1 D _ _ _ _ (by omega)) ?_;conv=>whnf)|(refine CallP.go (ev_join2 D _ _ _ _ _ (by first|omega|exact len_app2 (by omega) (by omega))) ?_;conv=>whnf)))
    all_goals (
     refine AppN.one (enc:=encNd) ⟨false,trS b a c mx k⟩ (hE _ ?_) rfl (by omega) ?_
     ·rw[hts]
      split<;>split<;>split<;>first|(exfalso;omega)|simp only[List.append_nil,List.nil_append,List.append_assoc,e1,e2,e3]
     ·(conv=>whnf)
      (repeat' (refine OpP.add ?_ ?_;omega;conv=>whnf))
      exact AKM.back [(1000,106)] (by (conv=>whnf);exact ⟨rfl,rfl,rfl⟩) (ih (k+1) [⟨false,trS b a c mx k⟩] o false (by omega) ⟨by omega,by rw[trN_snoc,hk0];rfl,by simp,p4,by rw[hk0];rfl⟩))
  ·obtain rfl:k=mx+1:=by omega
   cases fl
   ·(repeat' (first|(refine CmpP.go (fun hc => ?_) (fun hc => ?_)<;>first|(exfalso;omega)|(conv=>whnf))|(refine SnR.all (fun _=>rfl) rfl ?_ ?_;(first|rfl|simp);conv=>whnf)|(refine AKM.x ?_;conv=>whnf)))
    have ho:=fill_done p4 p5 (by omega)
    subst ho
    refine SnR.all (enc:=encInt) (fun _=>rfl) rfl hFl.symm ?_
    (conv=>whnf)
    skip
    refine FinP.go ?_ hcl
    rw[hS,p2]
   ·simp at p3)
end Go.Eng
namespace Go.Eng
theorem trim_le (l:List Rat):(trimQ l).length≤l.length:=by rw[trimQ_len];exact cutN_le _ _
theorem tf_ofU {S:SysQ} {n:Nat} {B A:List Rat} (lA:A.length≤n+1) (lB:B.length≤n+1) (h0:A.getD 0 0=1) (hd:S.d=B.getD 0 0)
  (h1 : ∀ k,k<n→cofQ S.a n k=A.getD (k+1) 0) (h2 : ∀ k,k<n→dotQ S.c (mvQ (flM S.a n k) S.b)=B.getD (k+1) 0-B.getD 0 0*A.getD (k+1) 0):tfA S n=trimQ A∧tfB S n=trimQ B:=by
 have e1:=trim_le A
 have e2:=trim_le B
 refine tf_of (trimQ_idem _) (trimQ_idem _) (by omega) (by omega) (by rw[trimQ_getD];exact h0) (by rw[trimQ_getD];exact hd) (fun k hk=>by rw[trimQ_getD];exact h1 k hk) (fun k hk=>by rw[trimQ_getD,trimQ_getD,trimQ_getD];exact h2 k hk)
theorem ctl_trim (B A:List Rat) (n:Nat):ctlQ (trimQ B) (trimQ A) n=ctlQ B A n:=by simp only[ctlQ,trimQ_getD]
theorem obs_trim (B A:List Rat) (n:Nat):obsQ (trimQ B) (trimQ A) n=obsQ B A n:=by simp only[obsQ,ctl_trim]
theorem ctl_tfU {B A:List Rat} {n:Nat} (lA:A.length≤n+1) (lB:B.length≤n+1) (h0:A.getD 0 0=1) (hn:n≤3):tfA (ctlQ B A n) n=trimQ A∧tfB (ctlQ B A n) n=trimQ B:=by
 have e1:=trim_le A
 have e2:=trim_le B
 rw[←ctl_trim]
 exact ctl_tf (trimQ_idem _) (trimQ_idem _) (by omega) (by omega) (by rw[trimQ_getD];exact h0) hn
theorem obs_tfU {B A:List Rat} {n:Nat} (lA:A.length≤n+1) (lB:B.length≤n+1) (h0:A.getD 0 0=1) (hn:n≤3):tfA (obsQ B A n) n=trimQ A∧tfB (obsQ B A n) n=trimQ B:=by
 have e1:=trim_le A
 have e2:=trim_le B
 rw[←obs_trim]
 exact obs_tf (trimQ_idem _) (trimQ_idem _) (by omega) (by omega) (by rw[trimQ_getD];exact h0) hn
theorem Bs.nil0 (k:Nat):Bs k []:=fun x hx=>by cases hx
theorem Bs.cons0 {k:Nat} {x:Rat} {l:List Rat} (hx:Bt k x) (h:Bs k l):Bs k (x::l):=fun y hy=>by
 rcases List.mem_cons.1 hy with rfl|hy
 ·exact hx
 ·exact h y hy
theorem Bt.neg0 {k:Nat} {x:Rat} (h:Bt k x):Bt k (-x):=⟨by simpa using h.1,by simpa using h.2⟩
def fracs (u:Rat) (l:List Int):List Rat:=l.map fun (v:Int)=>(v:Rat)/u
theorem lin_one10 (a0:Int) (D C:Wd) (u:Rat) (hu:u≠0) (e:((pw C.f:Int):Rat)=u):linQ (formOneS [a0] [] D C)=⟨[],[],[],(a0:Rat)/u⟩:=by
 simp [linQ,formOneS,spreadQ,tsOf,rowD,delayS,List.range_succ,exS,unitL,sumQ,e]
 try grind
theorem lin_two10 (a0:Int) (D C:Wd) (u:Rat) (hu:u≠0) (e:((pw C.f:Int):Rat)=u):linQ (formTwoS [a0] [] D C)=ctlQ (fracs u [a0]) (1::fracs u []) 0:=by
 simp [linQ,formTwoS,maxN,spreadQ,tsOf,rowD,delayS,List.range_succ,exS,unitL,sumQ,e,ctlQ,fracs]
 try grind
theorem lin_tr10 (a0:Int) (D C:Wd) (u:Rat) (hu:u≠0) (e:((pw C.f:Int):Rat)=u):linQ (transS [a0] [] D C)=obsQ (fracs u [a0]) (1::fracs u []) 0:=by
 simp [linQ,transS,trN,trS,maxN,spreadQ,tsOf,rowD,delayS,List.range_succ,exS,unitL,sumQ,e,obsQ,ctlQ,colQ,fracs]
 try grind
theorem one_ok10 (p0:Rat) (hp0:Bt 80 p0):SysQ.Ok ⟨[],[],[],p0⟩ 0 80:=by
 refine ⟨rfl,?_,rfl,rfl,?_,Bs.nil0 _,Bs.nil0 _,hp0⟩
 ·intro r hr
  cases hr
 ·intro r hr
  cases hr
theorem one_tf10 (p0:Rat):tfA ⟨[],[],[],p0⟩ 0=trimQ (1::[])∧tfB ⟨[],[],[],p0⟩ 0=trimQ [p0]:=by
 exact tf_ofU (by simp) (by simp) rfl rfl (fun k hk=>absurd hk (by omega)) (fun k hk=>absurd hk (by omega))
theorem lin_one11 (a0 d1:Int) (D C:Wd) (u:Rat) (hu:u≠0) (e:((pw C.f:Int):Rat)=u):linQ (formOneS [a0] [d1] D C)=⟨[[-((d1:Rat)/u)]],[((a0:Rat)/u)],[-((d1:Rat)/u)],(a0:Rat)/u⟩:=by
 simp [linQ,formOneS,spreadQ,tsOf,rowD,delayS,List.range_succ,exS,unitL,sumQ,e]
 try grind
theorem lin_two11 (a0 d1:Int) (D C:Wd) (u:Rat) (hu:u≠0) (e:((pw C.f:Int):Rat)=u):linQ (formTwoS [a0] [d1] D C)=ctlQ (fracs u [a0]) (1::fracs u [d1]) 1:=by
 simp [linQ,formTwoS,maxN,spreadQ,tsOf,rowD,delayS,List.range_succ,exS,unitL,sumQ,e,ctlQ,fracs]
 try grind
theorem lin_tr11 (a0 d1:Int) (D C:Wd) (u:Rat) (hu:u≠0) (e:((pw C.f:Int):Rat)=u):linQ (transS [a0] [d1] D C)=obsQ (fracs u [a0]) (1::fracs u [d1]) 1:=by
 simp [linQ,transS,trN,trS,maxN,spreadQ,tsOf,rowD,delayS,List.range_succ,exS,unitL,sumQ,e,obsQ,ctlQ,colQ,fracs]
 try grind
theorem one_ok11 (p0 q1:Rat) (hp0:Bt 80 p0) (hq1:Bt 80 q1):SysQ.Ok ⟨[[-q1]],[p0],[-q1],p0⟩ 1 80:=by
 refine ⟨rfl,?_,rfl,rfl,?_,Bs.cons0 (hp0) (Bs.nil0 _),Bs.cons0 (hq1.neg0) (Bs.nil0 _),hp0⟩
 ·intro r hr
  simp only[List.mem_cons,List.not_mem_nil,or_false]at hr
  subst hr
  exact rfl
 ·intro r hr
  simp only[List.mem_cons,List.not_mem_nil,or_false]at hr
  subst hr
  exact Bs.cons0 (hq1.neg0) (Bs.nil0 _)
theorem one_fl11 (q1:Rat):flM [[-q1]] 1 0=[[1]]∧cofQ [[-q1]] 1 0=q1:=by
 have g0:flM [[-q1]] 1 0=[[1]]:=rfl
 have k0:=cof_inv 1 (by omega) (trQ (mulQ [[-q1]] (flM [[-q1]] 1 0) 1) 1)
 rw[show trQ (mulQ [[-q1]] (flM [[-q1]] 1 0) 1) 1*Rat.divInt (-1) ((1:Nat):Int)=cofQ [[-q1]] 1 0 from rfl,g0,tr1]at k0
 have e0:cofQ [[-q1]] 1 0=q1:=by grind
 exact ⟨g0,e0⟩
theorem one_tf11 (p0 q1:Rat):tfA ⟨[[-q1]],[p0],[-q1],p0⟩ 1=trimQ (1::[q1])∧tfB ⟨[[-q1]],[p0],[-q1],p0⟩ 1=trimQ [p0]:=by
 obtain ⟨m0,c0⟩:=one_fl11 q1
 refine tf_ofU (by simp) (by simp) rfl rfl (fun k hk => ?_) (fun k hk => ?_)
 ·have hk':k=0:=by omega
  subst hk'
  exact c0
 ·have hk':k=0:=by omega
  subst hk'
  show dotQ [-q1] (mvQ (flM [[-q1]] 1 0) [p0])=[p0].getD (0+1) 0-p0*(1::[q1]:List Rat).getD (0+1) 0
  rw[m0]
  simp [mvQ,dotQ]
  try grind
theorem lin_one12 (a0 d1 d2:Int) (D C:Wd) (u:Rat) (hu:u≠0) (e:((pw C.f:Int):Rat)=u):linQ (formOneS [a0] [d1,d2] D C)=⟨[[-((d1:Rat)/u),-((d2:Rat)/u)],[1,0]],[((a0:Rat)/u),0],[-((d1:Rat)/u),-((d2:Rat)/u)],(a0:Rat)/u⟩:=by
 simp [linQ,formOneS,spreadQ,tsOf,rowD,delayS,List.range_succ,exS,unitL,sumQ,e]
 try grind
theorem lin_two12 (a0 d1 d2:Int) (D C:Wd) (u:Rat) (hu:u≠0) (e:((pw C.f:Int):Rat)=u):linQ (formTwoS [a0] [d1,d2] D C)=ctlQ (fracs u [a0]) (1::fracs u [d1,d2]) 2:=by
 simp [linQ,formTwoS,maxN,spreadQ,tsOf,rowD,delayS,List.range_succ,exS,unitL,sumQ,e,ctlQ,fracs]
 try grind
theorem lin_tr12 (a0 d1 d2:Int) (D C:Wd) (u:Rat) (hu:u≠0) (e:((pw C.f:Int):Rat)=u):linQ (transS [a0] [d1,d2] D C)=obsQ (fracs u [a0]) (1::fracs u [d1,d2]) 2:=by
 simp [linQ,transS,trN,trS,maxN,spreadQ,tsOf,rowD,delayS,List.range_succ,exS,unitL,sumQ,e,obsQ,ctlQ,colQ,fracs]
 try grind
theorem one_ok12 (p0 q1 q2:Rat) (hp0:Bt 80 p0) (hq1:Bt 80 q1) (hq2:Bt 80 q2):SysQ.Ok ⟨[[-q1,-q2],[1,0]],[p0,0],[-q1,-q2],p0⟩ 2 80:=by
 refine ⟨rfl,?_,rfl,rfl,?_,Bs.cons0 (hp0) (Bs.cons0 (Bt.zero _) (Bs.nil0 _)),Bs.cons0 (hq1.neg0) (Bs.cons0 (hq2.neg0) (Bs.nil0 _)),hp0⟩
 ·intro r hr
  simp only[List.mem_cons,List.not_mem_nil,or_false]at hr
  rcases hr with rfl|rfl
  ·exact rfl
  ·exact rfl
 ·intro r hr
  simp only[List.mem_cons,List.not_mem_nil,or_false]at hr
  rcases hr with rfl|rfl
  ·exact Bs.cons0 (hq1.neg0) (Bs.cons0 (hq2.neg0) (Bs.nil0 _))
  ·exact Bs.cons0 (Bt.one _) (Bs.cons0 (Bt.zero _) (Bs.nil0 _))
theorem one_fl12 (q1 q2:Rat):flM [[-q1,-q2],[1,0]] 2 0=[[1,0],[0,1]]∧flM [[-q1,-q2],[1,0]] 2 1=[[0,-q2],[1,q1]]∧cofQ [[-q1,-q2],[1,0]] 2 0=q1∧cofQ [[-q1,-q2],[1,0]] 2 1=q2:=by
 have g0:flM [[-q1,-q2],[1,0]] 2 0=[[1,0],[0,1]]:=rfl
 have k0:=cof_inv 1 (by omega) (trQ (mulQ [[-q1,-q2],[1,0]] (flM [[-q1,-q2],[1,0]] 2 0) 2) 2)
 rw[show trQ (mulQ [[-q1,-q2],[1,0]] (flM [[-q1,-q2],[1,0]] 2 0) 2) 2*Rat.divInt (-1) ((1:Nat):Int)=cofQ [[-q1,-q2],[1,0]] 2 0 from rfl,g0,tr2]at k0
 have e0:cofQ [[-q1,-q2],[1,0]] 2 0=q1:=by grind
 have g1:flM [[-q1,-q2],[1,0]] 2 1=[[0,-q2],[1,q1]]:=by
  have h:flM [[-q1,-q2],[1,0]] 2 1=addD (mulQ [[-q1,-q2],[1,0]] (flM [[-q1,-q2],[1,0]] 2 0) 2) (cofQ [[-q1,-q2],[1,0]] 2 0) 2:=rfl
  rw[g0,e0,step2]at h
  rw[h]
  clear h
  simp only[List.cons.injEq,and_true]
  refine ⟨⟨?_,?_⟩,⟨?_,?_⟩⟩<;>grind
 have k1:=cof_inv 2 (by omega) (trQ (mulQ [[-q1,-q2],[1,0]] (flM [[-q1,-q2],[1,0]] 2 1) 2) 2)
 rw[show trQ (mulQ [[-q1,-q2],[1,0]] (flM [[-q1,-q2],[1,0]] 2 1) 2) 2*Rat.divInt (-1) ((2:Nat):Int)=cofQ [[-q1,-q2],[1,0]] 2 1 from rfl,g1,tr2]at k1
 have e1:cofQ [[-q1,-q2],[1,0]] 2 1=q2:=by grind
 exact ⟨g0,g1,e0,e1⟩
theorem one_tf12 (p0 q1 q2:Rat):tfA ⟨[[-q1,-q2],[1,0]],[p0,0],[-q1,-q2],p0⟩ 2=trimQ (1::[q1,q2])∧tfB ⟨[[-q1,-q2],[1,0]],[p0,0],[-q1,-q2],p0⟩ 2=trimQ [p0]:=by
 obtain ⟨m0,m1,c0,c1⟩:=one_fl12 q1 q2
 refine tf_ofU (by simp) (by simp) rfl rfl (fun k hk => ?_) (fun k hk => ?_)
 ·have hk':k=0∨k=1:=by omega
  rcases hk' with rfl|rfl
  ·exact c0
  ·exact c1
 ·have hk':k=0∨k=1:=by omega
  rcases hk' with rfl|rfl
  ·show dotQ [-q1,-q2] (mvQ (flM [[-q1,-q2],[1,0]] 2 0) [p0,0])=[p0].getD (0+1) 0-p0*(1::[q1,q2]:List Rat).getD (0+1) 0
   rw[m0]
   simp [mvQ,dotQ]
   try grind
  ·show dotQ [-q1,-q2] (mvQ (flM [[-q1,-q2],[1,0]] 2 1) [p0,0])=[p0].getD (1+1) 0-p0*(1::[q1,q2]:List Rat).getD (1+1) 0
   rw[m1]
   simp [mvQ,dotQ]
   try grind
theorem lin_one20 (a0 a1:Int) (D C:Wd) (u:Rat) (hu:u≠0) (e:((pw C.f:Int):Rat)=u):linQ (formOneS [a0,a1] [] D C)=⟨[[0]],[1],[((a1:Rat)/u)],(a0:Rat)/u⟩:=by
 simp [linQ,formOneS,spreadQ,tsOf,rowD,delayS,List.range_succ,exS,unitL,sumQ,e]
 try grind
theorem lin_two20 (a0 a1:Int) (D C:Wd) (u:Rat) (hu:u≠0) (e:((pw C.f:Int):Rat)=u):linQ (formTwoS [a0,a1] [] D C)=ctlQ (fracs u [a0,a1]) (1::fracs u []) 1:=by
 simp [linQ,formTwoS,maxN,spreadQ,tsOf,rowD,delayS,List.range_succ,exS,unitL,sumQ,e,ctlQ,fracs]
 try grind
theorem lin_tr20 (a0 a1:Int) (D C:Wd) (u:Rat) (hu:u≠0) (e:((pw C.f:Int):Rat)=u):linQ (transS [a0,a1] [] D C)=obsQ (fracs u [a0,a1]) (1::fracs u []) 1:=by
 simp [linQ,transS,trN,trS,maxN,spreadQ,tsOf,rowD,delayS,List.range_succ,exS,unitL,sumQ,e,obsQ,ctlQ,colQ,fracs]
 try grind
theorem one_ok20 (p0 p1:Rat) (hp0:Bt 80 p0) (hp1:Bt 80 p1):SysQ.Ok ⟨[[0]],[1],[p1],p0⟩ 1 80:=by
 refine ⟨rfl,?_,rfl,rfl,?_,Bs.cons0 (Bt.one _) (Bs.nil0 _),Bs.cons0 (hp1) (Bs.nil0 _),hp0⟩
 ·intro r hr
  simp only[List.mem_cons,List.not_mem_nil,or_false]at hr
  subst hr
  exact rfl
 ·intro r hr
  simp only[List.mem_cons,List.not_mem_nil,or_false]at hr
  subst hr
  exact Bs.cons0 (Bt.zero _) (Bs.nil0 _)
theorem one_fl20 (p1:Rat):flM [[0]] 1 0=[[1]]∧cofQ [[0]] 1 0=0:=by
 have g0:flM [[0]] 1 0=[[1]]:=rfl
 have k0:=cof_inv 1 (by omega) (trQ (mulQ [[0]] (flM [[0]] 1 0) 1) 1)
 rw[show trQ (mulQ [[0]] (flM [[0]] 1 0) 1) 1*Rat.divInt (-1) ((1:Nat):Int)=cofQ [[0]] 1 0 from rfl,g0,tr1]at k0
 have e0:cofQ [[0]] 1 0=0:=by grind
 exact ⟨g0,e0⟩
theorem one_tf20 (p0 p1:Rat):tfA ⟨[[0]],[1],[p1],p0⟩ 1=trimQ (1::[])∧tfB ⟨[[0]],[1],[p1],p0⟩ 1=trimQ [p0,p1]:=by
 obtain ⟨m0,c0⟩:=one_fl20 p1
 refine tf_ofU (by simp) (by simp) rfl rfl (fun k hk => ?_) (fun k hk => ?_)
 ·have hk':k=0:=by omega
  subst hk'
  exact c0
 ·have hk':k=0:=by omega
  subst hk'
  show dotQ [p1] (mvQ (flM [[0]] 1 0) [1])=[p0,p1].getD (0+1) 0-p0*(1::[]:List Rat).getD (0+1) 0
  rw[m0]
  simp [mvQ,dotQ]
  try grind
theorem lin_one21 (a0 a1 d1:Int) (D C:Wd) (u:Rat) (hu:u≠0) (e:((pw C.f:Int):Rat)=u):linQ (formOneS [a0,a1] [d1] D C)=⟨[[0,0],[((a1:Rat)/u),-((d1:Rat)/u)]],[1,((a0:Rat)/u)],[((a1:Rat)/u),-((d1:Rat)/u)],(a0:Rat)/u⟩:=by
 simp [linQ,formOneS,spreadQ,tsOf,rowD,delayS,List.range_succ,exS,unitL,sumQ,e]
 try grind
theorem lin_two21 (a0 a1 d1:Int) (D C:Wd) (u:Rat) (hu:u≠0) (e:((pw C.f:Int):Rat)=u):linQ (formTwoS [a0,a1] [d1] D C)=ctlQ (fracs u [a0,a1]) (1::fracs u [d1]) 1:=by
 simp [linQ,formTwoS,maxN,spreadQ,tsOf,rowD,delayS,List.range_succ,exS,unitL,sumQ,e,ctlQ,fracs]
 try grind
theorem lin_tr21 (a0 a1 d1:Int) (D C:Wd) (u:Rat) (hu:u≠0) (e:((pw C.f:Int):Rat)=u):linQ (transS [a0,a1] [d1] D C)=obsQ (fracs u [a0,a1]) (1::fracs u [d1]) 1:=by
 simp [linQ,transS,trN,trS,maxN,spreadQ,tsOf,rowD,delayS,List.range_succ,exS,unitL,sumQ,e,obsQ,ctlQ,colQ,fracs]
 try grind
theorem one_ok21 (p0 p1 q1:Rat) (hp0:Bt 80 p0) (hp1:Bt 80 p1) (hq1:Bt 80 q1):SysQ.Ok ⟨[[0,0],[p1,-q1]],[1,p0],[p1,-q1],p0⟩ 2 80:=by
 refine ⟨rfl,?_,rfl,rfl,?_,Bs.cons0 (Bt.one _) (Bs.cons0 (hp0) (Bs.nil0 _)),Bs.cons0 (hp1) (Bs.cons0 (hq1.neg0) (Bs.nil0 _)),hp0⟩
 ·intro r hr
  simp only[List.mem_cons,List.not_mem_nil,or_false]at hr
  rcases hr with rfl|rfl
  ·exact rfl
  ·exact rfl
 ·intro r hr
  simp only[List.mem_cons,List.not_mem_nil,or_false]at hr
  rcases hr with rfl|rfl
  ·exact Bs.cons0 (Bt.zero _) (Bs.cons0 (Bt.zero _) (Bs.nil0 _))
  ·exact Bs.cons0 (hp1) (Bs.cons0 (hq1.neg0) (Bs.nil0 _))
theorem one_fl21 (p1 q1:Rat):flM [[0,0],[p1,-q1]] 2 0=[[1,0],[0,1]]∧flM [[0,0],[p1,-q1]] 2 1=[[q1,0],[p1,0]]∧cofQ [[0,0],[p1,-q1]] 2 0=q1∧cofQ [[0,0],[p1,-q1]] 2 1=0:=by
 have g0:flM [[0,0],[p1,-q1]] 2 0=[[1,0],[0,1]]:=rfl
 have k0:=cof_inv 1 (by omega) (trQ (mulQ [[0,0],[p1,-q1]] (flM [[0,0],[p1,-q1]] 2 0) 2) 2)
 rw[show trQ (mulQ [[0,0],[p1,-q1]] (flM [[0,0],[p1,-q1]] 2 0) 2) 2*Rat.divInt (-1) ((1:Nat):Int)=cofQ [[0,0],[p1,-q1]] 2 0 from rfl,g0,tr2]at k0
 have e0:cofQ [[0,0],[p1,-q1]] 2 0=q1:=by grind
 have g1:flM [[0,0],[p1,-q1]] 2 1=[[q1,0],[p1,0]]:=by
  have h:flM [[0,0],[p1,-q1]] 2 1=addD (mulQ [[0,0],[p1,-q1]] (flM [[0,0],[p1,-q1]] 2 0) 2) (cofQ [[0,0],[p1,-q1]] 2 0) 2:=rfl
  rw[g0,e0,step2]at h
  rw[h]
  clear h
  simp only[List.cons.injEq,and_true]
  refine ⟨⟨?_,?_⟩,⟨?_,?_⟩⟩<;>grind
 have k1:=cof_inv 2 (by omega) (trQ (mulQ [[0,0],[p1,-q1]] (flM [[0,0],[p1,-q1]] 2 1) 2) 2)
 rw[show trQ (mulQ [[0,0],[p1,-q1]] (flM [[0,0],[p1,-q1]] 2 1) 2) 2*Rat.divInt (-1) ((2:Nat):Int)=cofQ [[0,0],[p1,-q1]] 2 1 from rfl,g1,tr2]at k1
 have e1:cofQ [[0,0],[p1,-q1]] 2 1=0:=by grind
 exact ⟨g0,g1,e0,e1⟩
theorem one_tf21 (p0 p1 q1:Rat):tfA ⟨[[0,0],[p1,-q1]],[1,p0],[p1,-q1],p0⟩ 2=trimQ (1::[q1])∧tfB ⟨[[0,0],[p1,-q1]],[1,p0],[p1,-q1],p0⟩ 2=trimQ [p0,p1]:=by
 obtain ⟨m0,m1,c0,c1⟩:=one_fl21 p1 q1
 refine tf_ofU (by simp) (by simp) rfl rfl (fun k hk => ?_) (fun k hk => ?_)
 ·have hk':k=0∨k=1:=by omega
  rcases hk' with rfl|rfl
  ·exact c0
  ·exact c1
 ·have hk':k=0∨k=1:=by omega
  rcases hk' with rfl|rfl
  ·show dotQ [p1,-q1] (mvQ (flM [[0,0],[p1,-q1]] 2 0) [1,p0])=[p0,p1].getD (0+1) 0-p0*(1::[q1]:List Rat).getD (0+1) 0
   rw[m0]
   simp [mvQ,dotQ]
   try grind
  ·show dotQ [p1,-q1] (mvQ (flM [[0,0],[p1,-q1]] 2 1) [1,p0])=[p0,p1].getD (1+1) 0-p0*(1::[q1]:List Rat).getD (1+1) 0
   rw[m1]
   simp [mvQ,dotQ]
   try grind
theorem lin_one22 (a0 a1 d1 d2:Int) (D C:Wd) (u:Rat) (hu:u≠0) (e:((pw C.f:Int):Rat)=u):linQ (formOneS [a0,a1] [d1,d2] D C)=⟨[[0,0,0],[((a1:Rat)/u),-((d1:Rat)/u),-((d2:Rat)/u)],[0,1,0]],[1,((a0:Rat)/u),0],[((a1:Rat)/u),-((d1:Rat)/u),-((d2:Rat)/u)],(a0:Rat)/u⟩:=by
 simp [linQ,formOneS,spreadQ,tsOf,rowD,delayS,List.range_succ,exS,unitL,sumQ,e]
 try grind
theorem lin_two22 (a0 a1 d1 d2:Int) (D C:Wd) (u:Rat) (hu:u≠0) (e:((pw C.f:Int):Rat)=u):linQ (formTwoS [a0,a1] [d1,d2] D C)=ctlQ (fracs u [a0,a1]) (1::fracs u [d1,d2]) 2:=by
 simp [linQ,formTwoS,maxN,spreadQ,tsOf,rowD,delayS,List.range_succ,exS,unitL,sumQ,e,ctlQ,fracs]
 try grind
theorem lin_tr22 (a0 a1 d1 d2:Int) (D C:Wd) (u:Rat) (hu:u≠0) (e:((pw C.f:Int):Rat)=u):linQ (transS [a0,a1] [d1,d2] D C)=obsQ (fracs u [a0,a1]) (1::fracs u [d1,d2]) 2:=by
 simp [linQ,transS,trN,trS,maxN,spreadQ,tsOf,rowD,delayS,List.range_succ,exS,unitL,sumQ,e,obsQ,ctlQ,colQ,fracs]
 try grind
theorem one_ok22 (p0 p1 q1 q2:Rat) (hp0:Bt 80 p0) (hp1:Bt 80 p1) (hq1:Bt 80 q1) (hq2:Bt 80 q2):SysQ.Ok ⟨[[0,0,0],[p1,-q1,-q2],[0,1,0]],[1,p0,0],[p1,-q1,-q2],p0⟩ 3 80:=by
 refine ⟨rfl,?_,rfl,rfl,?_,Bs.cons0 (Bt.one _) (Bs.cons0 (hp0) (Bs.cons0 (Bt.zero _) (Bs.nil0 _))),Bs.cons0 (hp1) (Bs.cons0 (hq1.neg0) (Bs.cons0 (hq2.neg0) (Bs.nil0 _))),hp0⟩
 ·intro r hr
  simp only[List.mem_cons,List.not_mem_nil,or_false]at hr
  rcases hr with rfl|rfl|rfl
  ·exact rfl
  ·exact rfl
  ·exact rfl
 ·intro r hr
  simp only[List.mem_cons,List.not_mem_nil,or_false]at hr
  rcases hr with rfl|rfl|rfl
  ·exact Bs.cons0 (Bt.zero _) (Bs.cons0 (Bt.zero _) (Bs.cons0 (Bt.zero _) (Bs.nil0 _)))
  ·exact Bs.cons0 (hp1) (Bs.cons0 (hq1.neg0) (Bs.cons0 (hq2.neg0) (Bs.nil0 _)))
  ·exact Bs.cons0 (Bt.zero _) (Bs.cons0 (Bt.one _) (Bs.cons0 (Bt.zero _) (Bs.nil0 _)))
theorem one_fl22 (p1 q1 q2:Rat):flM [[0,0,0],[p1,-q1,-q2],[0,1,0]] 3 0=[[1,0,0],[0,1,0],[0,0,1]]∧flM [[0,0,0],[p1,-q1,-q2],[0,1,0]] 3 1=[[q1,0,0],[p1,0,-q2],[0,1,q1]]∧flM [[0,0,0],[p1,-q1,-q2],[0,1,0]] 3 2=[[q2,0,0],[0,0,0],[p1,0,0]]∧cofQ [[0,0,0],[p1,-q1,-q2],[0,1,0]] 3 0=q1∧cofQ [[0,0,0],[p1,-q1,-q2],[0,1,0]] 3 1=q2∧cofQ [[0,0,0],[p1,-q1,-q2],[0,1,0]] 3 2=0:=by
 have g0:flM [[0,0,0],[p1,-q1,-q2],[0,1,0]] 3 0=[[1,0,0],[0,1,0],[0,0,1]]:=rfl
 have k0:=cof_inv 1 (by omega) (trQ (mulQ [[0,0,0],[p1,-q1,-q2],[0,1,0]] (flM [[0,0,0],[p1,-q1,-q2],[0,1,0]] 3 0) 3) 3)
 rw[show trQ (mulQ [[0,0,0],[p1,-q1,-q2],[0,1,0]] (flM [[0,0,0],[p1,-q1,-q2],[0,1,0]] 3 0) 3) 3*Rat.divInt (-1) ((1:Nat):Int)=cofQ [[0,0,0],[p1,-q1,-q2],[0,1,0]] 3 0 from rfl,g0,tr3]at k0
 have e0:cofQ [[0,0,0],[p1,-q1,-q2],[0,1,0]] 3 0=q1:=by grind
 have g1:flM [[0,0,0],[p1,-q1,-q2],[0,1,0]] 3 1=[[q1,0,0],[p1,0,-q2],[0,1,q1]]:=by
  have h:flM [[0,0,0],[p1,-q1,-q2],[0,1,0]] 3 1=addD (mulQ [[0,0,0],[p1,-q1,-q2],[0,1,0]] (flM [[0,0,0],[p1,-q1,-q2],[0,1,0]] 3 0) 3) (cofQ [[0,0,0],[p1,-q1,-q2],[0,1,0]] 3 0) 3:=rfl
  rw[g0,e0,step3]at h
  rw[h]
  clear h
  simp only[List.cons.injEq,and_true]
  refine ⟨⟨?_,?_,?_⟩,⟨?_,?_,?_⟩,⟨?_,?_,?_⟩⟩<;>grind
 have k1:=cof_inv 2 (by omega) (trQ (mulQ [[0,0,0],[p1,-q1,-q2],[0,1,0]] (flM [[0,0,0],[p1,-q1,-q2],[0,1,0]] 3 1) 3) 3)
 rw[show trQ (mulQ [[0,0,0],[p1,-q1,-q2],[0,1,0]] (flM [[0,0,0],[p1,-q1,-q2],[0,1,0]] 3 1) 3) 3*Rat.divInt (-1) ((2:Nat):Int)=cofQ [[0,0,0],[p1,-q1,-q2],[0,1,0]] 3 1 from rfl,g1,tr3]at k1
 have e1:cofQ [[0,0,0],[p1,-q1,-q2],[0,1,0]] 3 1=q2:=by grind
 have g2:flM [[0,0,0],[p1,-q1,-q2],[0,1,0]] 3 2=[[q2,0,0],[0,0,0],[p1,0,0]]:=by
  have h:flM [[0,0,0],[p1,-q1,-q2],[0,1,0]] 3 2=addD (mulQ [[0,0,0],[p1,-q1,-q2],[0,1,0]] (flM [[0,0,0],[p1,-q1,-q2],[0,1,0]] 3 1) 3) (cofQ [[0,0,0],[p1,-q1,-q2],[0,1,0]] 3 1) 3:=rfl
  rw[g1,e1,step3]at h
  rw[h]
  clear h
  simp only[List.cons.injEq,and_true]
  refine ⟨⟨?_,?_,?_⟩,⟨?_,?_,?_⟩,⟨?_,?_,?_⟩⟩<;>grind
 have k2:=cof_inv 3 (by omega) (trQ (mulQ [[0,0,0],[p1,-q1,-q2],[0,1,0]] (flM [[0,0,0],[p1,-q1,-q2],[0,1,0]] 3 2) 3) 3)
 rw[show trQ (mulQ [[0,0,0],[p1,-q1,-q2],[0,1,0]] (flM [[0,0,0],[p1,-q1,-q2],[0,1,0]] 3 2) 3) 3*Rat.divInt (-1) ((3:Nat):Int)=cofQ [[0,0,0],[p1,-q1,-q2],[0,1,0]] 3 2 from rfl,g2,tr3]at k2
 have e2:cofQ [[0,0,0],[p1,-q1,-q2],[0,1,0]] 3 2=0:=by grind
 exact ⟨g0,g1,g2,e0,e1,e2⟩
theorem one_tf22 (p0 p1 q1 q2:Rat):tfA ⟨[[0,0,0],[p1,-q1,-q2],[0,1,0]],[1,p0,0],[p1,-q1,-q2],p0⟩ 3=trimQ (1::[q1,q2])∧tfB ⟨[[0,0,0],[p1,-q1,-q2],[0,1,0]],[1,p0,0],[p1,-q1,-q2],p0⟩ 3=trimQ [p0,p1]:=by
 obtain ⟨m0,m1,m2,c0,c1,c2⟩:=one_fl22 p1 q1 q2
 refine tf_ofU (by simp) (by simp) rfl rfl (fun k hk => ?_) (fun k hk => ?_)
 ·have hk':k=0∨k=1∨k=2:=by omega
  rcases hk' with rfl|rfl|rfl
  ·exact c0
  ·exact c1
  ·exact c2
 ·have hk':k=0∨k=1∨k=2:=by omega
  rcases hk' with rfl|rfl|rfl
  ·show dotQ [p1,-q1,-q2] (mvQ (flM [[0,0,0],[p1,-q1,-q2],[0,1,0]] 3 0) [1,p0,0])=[p0,p1].getD (0+1) 0-p0*(1::[q1,q2]:List Rat).getD (0+1) 0
   rw[m0]
   simp [mvQ,dotQ]
   try grind
  ·show dotQ [p1,-q1,-q2] (mvQ (flM [[0,0,0],[p1,-q1,-q2],[0,1,0]] 3 1) [1,p0,0])=[p0,p1].getD (1+1) 0-p0*(1::[q1,q2]:List Rat).getD (1+1) 0
   rw[m1]
   simp [mvQ,dotQ]
   try grind
  ·show dotQ [p1,-q1,-q2] (mvQ (flM [[0,0,0],[p1,-q1,-q2],[0,1,0]] 3 2) [1,p0,0])=[p0,p1].getD (2+1) 0-p0*(1::[q1,q2]:List Rat).getD (2+1) 0
   rw[m2]
   simp [mvQ,dotQ]
   try grind
theorem lin_one30 (a0 a1 a2:Int) (D C:Wd) (u:Rat) (hu:u≠0) (e:((pw C.f:Int):Rat)=u):linQ (formOneS [a0,a1,a2] [] D C)=⟨[[0,0],[1,0]],[1,0],[((a1:Rat)/u),((a2:Rat)/u)],(a0:Rat)/u⟩:=by
 simp [linQ,formOneS,spreadQ,tsOf,rowD,delayS,List.range_succ,exS,unitL,sumQ,e]
 try grind
theorem lin_two30 (a0 a1 a2:Int) (D C:Wd) (u:Rat) (hu:u≠0) (e:((pw C.f:Int):Rat)=u):linQ (formTwoS [a0,a1,a2] [] D C)=ctlQ (fracs u [a0,a1,a2]) (1::fracs u []) 2:=by
 simp [linQ,formTwoS,maxN,spreadQ,tsOf,rowD,delayS,List.range_succ,exS,unitL,sumQ,e,ctlQ,fracs]
 try grind
theorem lin_tr30 (a0 a1 a2:Int) (D C:Wd) (u:Rat) (hu:u≠0) (e:((pw C.f:Int):Rat)=u):linQ (transS [a0,a1,a2] [] D C)=obsQ (fracs u [a0,a1,a2]) (1::fracs u []) 2:=by
 simp [linQ,transS,trN,trS,maxN,spreadQ,tsOf,rowD,delayS,List.range_succ,exS,unitL,sumQ,e,obsQ,ctlQ,colQ,fracs]
 try grind
theorem one_ok30 (p0 p1 p2:Rat) (hp0:Bt 80 p0) (hp1:Bt 80 p1) (hp2:Bt 80 p2):SysQ.Ok ⟨[[0,0],[1,0]],[1,0],[p1,p2],p0⟩ 2 80:=by
 refine ⟨rfl,?_,rfl,rfl,?_,Bs.cons0 (Bt.one _) (Bs.cons0 (Bt.zero _) (Bs.nil0 _)),Bs.cons0 (hp1) (Bs.cons0 (hp2) (Bs.nil0 _)),hp0⟩
 ·intro r hr
  simp only[List.mem_cons,List.not_mem_nil,or_false]at hr
  rcases hr with rfl|rfl
  ·exact rfl
  ·exact rfl
 ·intro r hr
  simp only[List.mem_cons,List.not_mem_nil,or_false]at hr
  rcases hr with rfl|rfl
  ·exact Bs.cons0 (Bt.zero _) (Bs.cons0 (Bt.zero _) (Bs.nil0 _))
  ·exact Bs.cons0 (Bt.one _) (Bs.cons0 (Bt.zero _) (Bs.nil0 _))
theorem one_fl30 (p1 p2:Rat):flM [[0,0],[1,0]] 2 0=[[1,0],[0,1]]∧flM [[0,0],[1,0]] 2 1=[[0,0],[1,0]]∧cofQ [[0,0],[1,0]] 2 0=0∧cofQ [[0,0],[1,0]] 2 1=0:=by
 have g0:flM [[0,0],[1,0]] 2 0=[[1,0],[0,1]]:=rfl
 have k0:=cof_inv 1 (by omega) (trQ (mulQ [[0,0],[1,0]] (flM [[0,0],[1,0]] 2 0) 2) 2)
 rw[show trQ (mulQ [[0,0],[1,0]] (flM [[0,0],[1,0]] 2 0) 2) 2*Rat.divInt (-1) ((1:Nat):Int)=cofQ [[0,0],[1,0]] 2 0 from rfl,g0,tr2]at k0
 have e0:cofQ [[0,0],[1,0]] 2 0=0:=by grind
 have g1:flM [[0,0],[1,0]] 2 1=[[0,0],[1,0]]:=by
  have h:flM [[0,0],[1,0]] 2 1=addD (mulQ [[0,0],[1,0]] (flM [[0,0],[1,0]] 2 0) 2) (cofQ [[0,0],[1,0]] 2 0) 2:=rfl
  rw[g0,e0,step2]at h
  rw[h]
  clear h
  simp only[List.cons.injEq,and_true]
  refine ⟨⟨?_,?_⟩,⟨?_,?_⟩⟩<;>grind
 have k1:=cof_inv 2 (by omega) (trQ (mulQ [[0,0],[1,0]] (flM [[0,0],[1,0]] 2 1) 2) 2)
 rw[show trQ (mulQ [[0,0],[1,0]] (flM [[0,0],[1,0]] 2 1) 2) 2*Rat.divInt (-1) ((2:Nat):Int)=cofQ [[0,0],[1,0]] 2 1 from rfl,g1,tr2]at k1
 have e1:cofQ [[0,0],[1,0]] 2 1=0:=by grind
 exact ⟨g0,g1,e0,e1⟩
theorem one_tf30 (p0 p1 p2:Rat):tfA ⟨[[0,0],[1,0]],[1,0],[p1,p2],p0⟩ 2=trimQ (1::[])∧tfB ⟨[[0,0],[1,0]],[1,0],[p1,p2],p0⟩ 2=trimQ [p0,p1,p2]:=by
 obtain ⟨m0,m1,c0,c1⟩:=one_fl30 p1 p2
 refine tf_ofU (by simp) (by simp) rfl rfl (fun k hk => ?_) (fun k hk => ?_)
 ·have hk':k=0∨k=1:=by omega
  rcases hk' with rfl|rfl
  ·exact c0
  ·exact c1
 ·have hk':k=0∨k=1:=by omega
  rcases hk' with rfl|rfl
  ·show dotQ [p1,p2] (mvQ (flM [[0,0],[1,0]] 2 0) [1,0])=[p0,p1,p2].getD (0+1) 0-p0*(1::[]:List Rat).getD (0+1) 0
   rw[m0]
   simp [mvQ,dotQ]
   try grind
  ·show dotQ [p1,p2] (mvQ (flM [[0,0],[1,0]] 2 1) [1,0])=[p0,p1,p2].getD (1+1) 0-p0*(1::[]:List Rat).getD (1+1) 0
   rw[m1]
   simp [mvQ,dotQ]
   try grind
theorem lin_one31 (a0 a1 a2 d1:Int) (D C:Wd) (u:Rat) (hu:u≠0) (e:((pw C.f:Int):Rat)=u):linQ (formOneS [a0,a1,a2] [d1] D C)=⟨[[0,0,0],[1,0,0],[((a1:Rat)/u),((a2:Rat)/u),-((d1:Rat)/u)]],[1,0,((a0:Rat)/u)],[((a1:Rat)/u),((a2:Rat)/u),-((d1:Rat)/u)],(a0:Rat)/u⟩:=by
 simp [linQ,formOneS,spreadQ,tsOf,rowD,delayS,List.range_succ,exS,unitL,sumQ,e]
 try grind
theorem lin_two31 (a0 a1 a2 d1:Int) (D C:Wd) (u:Rat) (hu:u≠0) (e:((pw C.f:Int):Rat)=u):linQ (formTwoS [a0,a1,a2] [d1] D C)=ctlQ (fracs u [a0,a1,a2]) (1::fracs u [d1]) 2:=by
 simp [linQ,formTwoS,maxN,spreadQ,tsOf,rowD,delayS,List.range_succ,exS,unitL,sumQ,e,ctlQ,fracs]
 try grind
theorem lin_tr31 (a0 a1 a2 d1:Int) (D C:Wd) (u:Rat) (hu:u≠0) (e:((pw C.f:Int):Rat)=u):linQ (transS [a0,a1,a2] [d1] D C)=obsQ (fracs u [a0,a1,a2]) (1::fracs u [d1]) 2:=by
 simp [linQ,transS,trN,trS,maxN,spreadQ,tsOf,rowD,delayS,List.range_succ,exS,unitL,sumQ,e,obsQ,ctlQ,colQ,fracs]
 try grind
theorem one_ok31 (p0 p1 p2 q1:Rat) (hp0:Bt 80 p0) (hp1:Bt 80 p1) (hp2:Bt 80 p2) (hq1:Bt 80 q1):SysQ.Ok ⟨[[0,0,0],[1,0,0],[p1,p2,-q1]],[1,0,p0],[p1,p2,-q1],p0⟩ 3 80:=by
 refine ⟨rfl,?_,rfl,rfl,?_,Bs.cons0 (Bt.one _) (Bs.cons0 (Bt.zero _) (Bs.cons0 (hp0) (Bs.nil0 _))),Bs.cons0 (hp1) (Bs.cons0 (hp2) (Bs.cons0 (hq1.neg0) (Bs.nil0 _))),hp0⟩
 ·intro r hr
  simp only[List.mem_cons,List.not_mem_nil,or_false]at hr
  rcases hr with rfl|rfl|rfl
  ·exact rfl
  ·exact rfl
  ·exact rfl
 ·intro r hr
  simp only[List.mem_cons,List.not_mem_nil,or_false]at hr
  rcases hr with rfl|rfl|rfl
  ·exact Bs.cons0 (Bt.zero _) (Bs.cons0 (Bt.zero _) (Bs.cons0 (Bt.zero _) (Bs.nil0 _)))
  ·exact Bs.cons0 (Bt.one _) (Bs.cons0 (Bt.zero _) (Bs.cons0 (Bt.zero _) (Bs.nil0 _)))
  ·exact Bs.cons0 (hp1) (Bs.cons0 (hp2) (Bs.cons0 (hq1.neg0) (Bs.nil0 _)))
theorem one_fl31 (p1 p2 q1:Rat):flM [[0,0,0],[1,0,0],[p1,p2,-q1]] 3 0=[[1,0,0],[0,1,0],[0,0,1]]∧flM [[0,0,0],[1,0,0],[p1,p2,-q1]] 3 1=[[q1,0,0],[1,q1,0],[p1,p2,0]]∧flM [[0,0,0],[1,0,0],[p1,p2,-q1]] 3 2=[[0,0,0],[q1,0,0],[p2,0,0]]∧cofQ [[0,0,0],[1,0,0],[p1,p2,-q1]] 3 0=q1∧cofQ [[0,0,0],[1,0,0],[p1,p2,-q1]] 3 1=0∧cofQ [[0,0,0],[1,0,0],[p1,p2,-q1]] 3 2=0:=by
 have g0:flM [[0,0,0],[1,0,0],[p1,p2,-q1]] 3 0=[[1,0,0],[0,1,0],[0,0,1]]:=rfl
 have k0:=cof_inv 1 (by omega) (trQ (mulQ [[0,0,0],[1,0,0],[p1,p2,-q1]] (flM [[0,0,0],[1,0,0],[p1,p2,-q1]] 3 0) 3) 3)
 rw[show trQ (mulQ [[0,0,0],[1,0,0],[p1,p2,-q1]] (flM [[0,0,0],[1,0,0],[p1,p2,-q1]] 3 0) 3) 3*Rat.divInt (-1) ((1:Nat):Int)=cofQ [[0,0,0],[1,0,0],[p1,p2,-q1]] 3 0 from rfl,g0,tr3]at k0
 have e0:cofQ [[0,0,0],[1,0,0],[p1,p2,-q1]] 3 0=q1:=by grind
 have g1:flM [[0,0,0],[1,0,0],[p1,p2,-q1]] 3 1=[[q1,0,0],[1,q1,0],[p1,p2,0]]:=by
  have h:flM [[0,0,0],[1,0,0],[p1,p2,-q1]] 3 1=addD (mulQ [[0,0,0],[1,0,0],[p1,p2,-q1]] (flM [[0,0,0],[1,0,0],[p1,p2,-q1]] 3 0) 3) (cofQ [[0,0,0],[1,0,0],[p1,p2,-q1]] 3 0) 3:=rfl
  rw[g0,e0,step3]at h
  rw[h]
  clear h
  simp only[List.cons.injEq,and_true]
  refine ⟨⟨?_,?_,?_⟩,⟨?_,?_,?_⟩,⟨?_,?_,?_⟩⟩<;>grind
 have k1:=cof_inv 2 (by omega) (trQ (mulQ [[0,0,0],[1,0,0],[p1,p2,-q1]] (flM [[0,0,0],[1,0,0],[p1,p2,-q1]] 3 1) 3) 3)
 rw[show trQ (mulQ [[0,0,0],[1,0,0],[p1,p2,-q1]] (flM [[0,0,0],[1,0,0],[p1,p2,-q1]] 3 1) 3) 3*Rat.divInt (-1) ((2:Nat):Int)=cofQ [[0,0,0],[1,0,0],[p1,p2,-q1]] 3 1 from rfl,g1,tr3]at k1
 have e1:cofQ [[0,0,0],[1,0,0],[p1,p2,-q1]] 3 1=0:=by grind
 have g2:flM [[0,0,0],[1,0,0],[p1,p2,-q1]] 3 2=[[0,0,0],[q1,0,0],[p2,0,0]]:=by
  have h:flM [[0,0,0],[1,0,0],[p1,p2,-q1]] 3 2=addD (mulQ [[0,0,0],[1,0,0],[p1,p2,-q1]] (flM [[0,0,0],[1,0,0],[p1,p2,-q1]] 3 1) 3) (cofQ [[0,0,0],[1,0,0],[p1,p2,-q1]] 3 1) 3:=rfl
  rw[g1,e1,step3]at h
  rw[h]
  clear h
  simp only[List.cons.injEq,and_true]
  refine ⟨⟨?_,?_,?_⟩,⟨?_,?_,?_⟩,⟨?_,?_,?_⟩⟩<;>grind
 have k2:=cof_inv 3 (by omega) (trQ (mulQ [[0,0,0],[1,0,0],[p1,p2,-q1]] (flM [[0,0,0],[1,0,0],[p1,p2,-q1]] 3 2) 3) 3)
 rw[show trQ (mulQ [[0,0,0],[1,0,0],[p1,p2,-q1]] (flM [[0,0,0],[1,0,0],[p1,p2,-q1]] 3 2) 3) 3*Rat.divInt (-1) ((3:Nat):Int)=cofQ [[0,0,0],[1,0,0],[p1,p2,-q1]] 3 2 from rfl,g2,tr3]at k2
 have e2:cofQ [[0,0,0],[1,0,0],[p1,p2,-q1]] 3 2=0:=by grind
 exact ⟨g0,g1,g2,e0,e1,e2⟩
theorem one_tf31 (p0 p1 p2 q1:Rat):tfA ⟨[[0,0,0],[1,0,0],[p1,p2,-q1]],[1,0,p0],[p1,p2,-q1],p0⟩ 3=trimQ (1::[q1])∧tfB ⟨[[0,0,0],[1,0,0],[p1,p2,-q1]],[1,0,p0],[p1,p2,-q1],p0⟩ 3=trimQ [p0,p1,p2]:=by
 obtain ⟨m0,m1,m2,c0,c1,c2⟩:=one_fl31 p1 p2 q1
 refine tf_ofU (by simp) (by simp) rfl rfl (fun k hk => ?_) (fun k hk => ?_)
 ·have hk':k=0∨k=1∨k=2:=by omega
  rcases hk' with rfl|rfl|rfl
  ·exact c0
  ·exact c1
  ·exact c2
 ·have hk':k=0∨k=1∨k=2:=by omega
  rcases hk' with rfl|rfl|rfl
  ·show dotQ [p1,p2,-q1] (mvQ (flM [[0,0,0],[1,0,0],[p1,p2,-q1]] 3 0) [1,0,p0])=[p0,p1,p2].getD (0+1) 0-p0*(1::[q1]:List Rat).getD (0+1) 0
   rw[m0]
   simp [mvQ,dotQ]
   try grind
  ·show dotQ [p1,p2,-q1] (mvQ (flM [[0,0,0],[1,0,0],[p1,p2,-q1]] 3 1) [1,0,p0])=[p0,p1,p2].getD (1+1) 0-p0*(1::[q1]:List Rat).getD (1+1) 0
   rw[m1]
   simp [mvQ,dotQ]
   try grind
  ·show dotQ [p1,p2,-q1] (mvQ (flM [[0,0,0],[1,0,0],[p1,p2,-q1]] 3 2) [1,0,p0])=[p0,p1,p2].getD (2+1) 0-p0*(1::[q1]:List Rat).getD (2+1) 0
   rw[m2]
   simp [mvQ,dotQ]
   try grind
theorem lin_one32 (a0 a1 a2 d1 d2:Int) (D C:Wd) (u:Rat) (hu:u≠0) (e:((pw C.f:Int):Rat)=u):linQ (formOneS [a0,a1,a2] [d1,d2] D C)=⟨[[0,0,0,0],[1,0,0,0],[((a1:Rat)/u),((a2:Rat)/u),-((d1:Rat)/u),-((d2:Rat)/u)],[0,0,1,0]],[1,0,((a0:Rat)/u),0],[((a1:Rat)/u),((a2:Rat)/u),-((d1:Rat)/u),-((d2:Rat)/u)],(a0:Rat)/u⟩:=by
 simp [linQ,formOneS,spreadQ,tsOf,rowD,delayS,List.range_succ,exS,unitL,sumQ,e]
 try grind
theorem lin_two32 (a0 a1 a2 d1 d2:Int) (D C:Wd) (u:Rat) (hu:u≠0) (e:((pw C.f:Int):Rat)=u):linQ (formTwoS [a0,a1,a2] [d1,d2] D C)=ctlQ (fracs u [a0,a1,a2]) (1::fracs u [d1,d2]) 2:=by
 simp [linQ,formTwoS,maxN,spreadQ,tsOf,rowD,delayS,List.range_succ,exS,unitL,sumQ,e,ctlQ,fracs]
 try grind
theorem lin_tr32 (a0 a1 a2 d1 d2:Int) (D C:Wd) (u:Rat) (hu:u≠0) (e:((pw C.f:Int):Rat)=u):linQ (transS [a0,a1,a2] [d1,d2] D C)=obsQ (fracs u [a0,a1,a2]) (1::fracs u [d1,d2]) 2:=by
 simp [linQ,transS,trN,trS,maxN,spreadQ,tsOf,rowD,delayS,List.range_succ,exS,unitL,sumQ,e,obsQ,ctlQ,colQ,fracs]
 try grind
theorem one_ok32 (p0 p1 p2 q1 q2:Rat) (hp0:Bt 80 p0) (hp1:Bt 80 p1) (hp2:Bt 80 p2) (hq1:Bt 80 q1) (hq2:Bt 80 q2):SysQ.Ok ⟨[[0,0,0,0],[1,0,0,0],[p1,p2,-q1,-q2],[0,0,1,0]],[1,0,p0,0],[p1,p2,-q1,-q2],p0⟩ 4 80:=by
 refine ⟨rfl,?_,rfl,rfl,?_,Bs.cons0 (Bt.one _) (Bs.cons0 (Bt.zero _) (Bs.cons0 (hp0) (Bs.cons0 (Bt.zero _) (Bs.nil0 _)))),Bs.cons0 (hp1) (Bs.cons0 (hp2) (Bs.cons0 (hq1.neg0) (Bs.cons0 (hq2.neg0) (Bs.nil0 _)))),hp0⟩
 ·intro r hr
  simp only[List.mem_cons,List.not_mem_nil,or_false]at hr
  rcases hr with rfl|rfl|rfl|rfl
  ·exact rfl
  ·exact rfl
  ·exact rfl
  ·exact rfl
 ·intro r hr
  simp only[List.mem_cons,List.not_mem_nil,or_false]at hr
  rcases hr with rfl|rfl|rfl|rfl
  ·exact Bs.cons0 (Bt.zero _) (Bs.cons0 (Bt.zero _) (Bs.cons0 (Bt.zero _) (Bs.cons0 (Bt.zero _) (Bs.nil0 _))))
  ·exact Bs.cons0 (Bt.one _) (Bs.cons0 (Bt.zero _) (Bs.cons0 (Bt.zero _) (Bs.cons0 (Bt.zero _) (Bs.nil0 _))))
  ·exact Bs.cons0 (hp1) (Bs.cons0 (hp2) (Bs.cons0 (hq1.neg0) (Bs.cons0 (hq2.neg0) (Bs.nil0 _))))
  ·exact Bs.cons0 (Bt.zero _) (Bs.cons0 (Bt.zero _) (Bs.cons0 (Bt.one _) (Bs.cons0 (Bt.zero _) (Bs.nil0 _))))
theorem one_fl32 (p1 p2 q1 q2:Rat):flM [[0,0,0,0],[1,0,0,0],[p1,p2,-q1,-q2],[0,0,1,0]] 4 0=[[1,0,0,0],[0,1,0,0],[0,0,1,0],[0,0,0,1]]∧flM [[0,0,0,0],[1,0,0,0],[p1,p2,-q1,-q2],[0,0,1,0]] 4 1=[[q1,0,0,0],[1,q1,0,0],[p1,p2,0,-q2],[0,0,1,q1]]∧flM [[0,0,0,0],[1,0,0,0],[p1,p2,-q1,-q2],[0,0,1,0]] 4 2=[[q2,0,0,0],[q1,q2,0,0],[p2,0,0,0],[p1,p2,0,0]]∧flM [[0,0,0,0],[1,0,0,0],[p1,p2,-q1,-q2],[0,0,1,0]] 4 3=[[0,0,0,0],[q2,0,0,0],[0,0,0,0],[p2,0,0,0]]∧cofQ [[0,0,0,0],[1,0,0,0],[p1,p2,-q1,-q2],[0,0,1,0]] 4 0=q1∧cofQ [[0,0,0,0],[1,0,0,0],[p1,p2,-q1,-q2],[0,0,1,0]] 4 1=q2∧cofQ [[0,0,0,0],[1,0,0,0],[p1,p2,-q1,-q2],[0,0,1,0]] 4 2=0∧cofQ [[0,0,0,0],[1,0,0,0],[p1,p2,-q1,-q2],[0,0,1,0]] 4 3=0:=by
 have g0:flM [[0,0,0,0],[1,0,0,0],[p1,p2,-q1,-q2],[0,0,1,0]] 4 0=[[1,0,0,0],[0,1,0,0],[0,0,1,0],[0,0,0,1]]:=rfl
 have k0:=cof_inv 1 (by omega) (trQ (mulQ [[0,0,0,0],[1,0,0,0],[p1,p2,-q1,-q2],[0,0,1,0]] (flM [[0,0,0,0],[1,0,0,0],[p1,p2,-q1,-q2],[0,0,1,0]] 4 0) 4) 4)
 rw[show trQ (mulQ [[0,0,0,0],[1,0,0,0],[p1,p2,-q1,-q2],[0,0,1,0]] (flM [[0,0,0,0],[1,0,0,0],[p1,p2,-q1,-q2],[0,0,1,0]] 4 0) 4) 4*Rat.divInt (-1) ((1:Nat):Int)=cofQ [[0,0,0,0],[1,0,0,0],[p1,p2,-q1,-q2],[0,0,1,0]] 4 0 from rfl,g0,tr4]at k0
 have e0:cofQ [[0,0,0,0],[1,0,0,0],[p1,p2,-q1,-q2],[0,0,1,0]] 4 0=q1:=by grind
 have g1:flM [[0,0,0,0],[1,0,0,0],[p1,p2,-q1,-q2],[0,0,1,0]] 4 1=[[q1,0,0,0],[1,q1,0,0],[p1,p2,0,-q2],[0,0,1,q1]]:=by
  have h:flM [[0,0,0,0],[1,0,0,0],[p1,p2,-q1,-q2],[0,0,1,0]] 4 1=addD (mulQ [[0,0,0,0],[1,0,0,0],[p1,p2,-q1,-q2],[0,0,1,0]] (flM [[0,0,0,0],[1,0,0,0],[p1,p2,-q1,-q2],[0,0,1,0]] 4 0) 4) (cofQ [[0,0,0,0],[1,0,0,0],[p1,p2,-q1,-q2],[0,0,1,0]] 4 0) 4:=rfl
  rw[g0,e0,step4]at h
  rw[h]
  clear h
  simp only[List.cons.injEq,and_true]
  refine ⟨⟨?_,?_,?_,?_⟩,⟨?_,?_,?_,?_⟩,⟨?_,?_,?_,?_⟩,⟨?_,?_,?_,?_⟩⟩<;>grind
 have k1:=cof_inv 2 (by omega) (trQ (mulQ [[0,0,0,0],[1,0,0,0],[p1,p2,-q1,-q2],[0,0,1,0]] (flM [[0,0,0,0],[1,0,0,0],[p1,p2,-q1,-q2],[0,0,1,0]] 4 1) 4) 4)
 rw[show trQ (mulQ [[0,0,0,0],[1,0,0,0],[p1,p2,-q1,-q2],[0,0,1,0]] (flM [[0,0,0,0],[1,0,0,0],[p1,p2,-q1,-q2],[0,0,1,0]] 4 1) 4) 4*Rat.divInt (-1) ((2:Nat):Int)=cofQ [[0,0,0,0],[1,0,0,0],[p1,p2,-q1,-q2],[0,0,1,0]] 4 1 from rfl,g1,tr4]at k1
 have e1:cofQ [[0,0,0,0],[1,0,0,0],[p1,p2,-q1,-q2],[0,0,1,0]] 4 1=q2:=by grind
 have g2:flM [[0,0,0,0],[1,0,0,0],[p1,p2,-q1,-q2],[0,0,1,0]] 4 2=[[q2,0,0,0],[q1,q2,0,0],[p2,0,0,0],[p1,p2,0,0]]:=by
  have h:flM [[0,0,0,0],[1,0,0,0],[p1,p2,-q1,-q2],[0,0,1,0]] 4 2=addD (mulQ [[0,0,0,0],[1,0,0,0],[p1,p2,-q1,-q2],[0,0,1,0]] (flM [[0,0,0,0],[1,0,0,0],[p1,p2,-q1,-q2],[0,0,1,0]] 4 1) 4) (cofQ [[0,0,0,0],[1,0,0,0],[p1,p2,-q1,-q2],[0,0,1,0]] 4 1) 4:=rfl
  rw[g1,e1,step4]at h
  rw[h]
  clear h
  simp only[List.cons.injEq,and_true]
  refine ⟨⟨?_,?_,?_,?_⟩,⟨?_,?_,?_,?_⟩,⟨?_,?_,?_,?_⟩,⟨?_,?_,?_,?_⟩⟩<;>grind
 have k2:=cof_inv 3 (by omega) (trQ (mulQ [[0,0,0,0],[1,0,0,0],[p1,p2,-q1,-q2],[0,0,1,0]] (flM [[0,0,0,0],[1,0,0,0],[p1,p2,-q1,-q2],[0,0,1,0]] 4 2) 4) 4)
 rw[show trQ (mulQ [[0,0,0,0],[1,0,0,0],[p1,p2,-q1,-q2],[0,0,1,0]] (flM [[0,0,0,0],[1,0,0,0],[p1,p2,-q1,-q2],[0,0,1,0]] 4 2) 4) 4*Rat.divInt (-1) ((3:Nat):Int)=cofQ [[0,0,0,0],[1,0,0,0],[p1,p2,-q1,-q2],[0,0,1,0]] 4 2 from rfl,g2,tr4]at k2
 have e2:cofQ [[0,0,0,0],[1,0,0,0],[p1,p2,-q1,-q2],[0,0,1,0]] 4 2=0:=by grind
 have g3:flM [[0,0,0,0],[1,0,0,0],[p1,p2,-q1,-q2],[0,0,1,0]] 4 3=[[0,0,0,0],[q2,0,0,0],[0,0,0,0],[p2,0,0,0]]:=by
  have h:flM [[0,0,0,0],[1,0,0,0],[p1,p2,-q1,-q2],[0,0,1,0]] 4 3=addD (mulQ [[0,0,0,0],[1,0,0,0],[p1,p2,-q1,-q2],[0,0,1,0]] (flM [[0,0,0,0],[1,0,0,0],[p1,p2,-q1,-q2],[0,0,1,0]] 4 2) 4) (cofQ [[0,0,0,0],[1,0,0,0],[p1,p2,-q1,-q2],[0,0,1,0]] 4 2) 4:=rfl
  rw[g2,e2,step4]at h
  rw[h]
  clear h
  simp only[List.cons.injEq,and_true]
  refine ⟨⟨?_,?_,?_,?_⟩,⟨?_,?_,?_,?_⟩,⟨?_,?_,?_,?_⟩,⟨?_,?_,?_,?_⟩⟩<;>grind
 have k3:=cof_inv 4 (by omega) (trQ (mulQ [[0,0,0,0],[1,0,0,0],[p1,p2,-q1,-q2],[0,0,1,0]] (flM [[0,0,0,0],[1,0,0,0],[p1,p2,-q1,-q2],[0,0,1,0]] 4 3) 4) 4)
 rw[show trQ (mulQ [[0,0,0,0],[1,0,0,0],[p1,p2,-q1,-q2],[0,0,1,0]] (flM [[0,0,0,0],[1,0,0,0],[p1,p2,-q1,-q2],[0,0,1,0]] 4 3) 4) 4*Rat.divInt (-1) ((4:Nat):Int)=cofQ [[0,0,0,0],[1,0,0,0],[p1,p2,-q1,-q2],[0,0,1,0]] 4 3 from rfl,g3,tr4]at k3
 have e3:cofQ [[0,0,0,0],[1,0,0,0],[p1,p2,-q1,-q2],[0,0,1,0]] 4 3=0:=by grind
 exact ⟨g0,g1,g2,g3,e0,e1,e2,e3⟩
theorem one_tf32 (p0 p1 p2 q1 q2:Rat):tfA ⟨[[0,0,0,0],[1,0,0,0],[p1,p2,-q1,-q2],[0,0,1,0]],[1,0,p0,0],[p1,p2,-q1,-q2],p0⟩ 4=trimQ (1::[q1,q2])∧tfB ⟨[[0,0,0,0],[1,0,0,0],[p1,p2,-q1,-q2],[0,0,1,0]],[1,0,p0,0],[p1,p2,-q1,-q2],p0⟩ 4=trimQ [p0,p1,p2]:=by
 obtain ⟨m0,m1,m2,m3,c0,c1,c2,c3⟩:=one_fl32 p1 p2 q1 q2
 refine tf_ofU (by simp) (by simp) rfl rfl (fun k hk => ?_) (fun k hk => ?_)
 ·have hk':k=0∨k=1∨k=2∨k=3:=by omega
  rcases hk' with rfl|rfl|rfl|rfl
  ·exact c0
  ·exact c1
  ·exact c2
  ·exact c3
 ·have hk':k=0∨k=1∨k=2∨k=3:=by omega
  rcases hk' with rfl|rfl|rfl|rfl
  ·show dotQ [p1,p2,-q1,-q2] (mvQ (flM [[0,0,0,0],[1,0,0,0],[p1,p2,-q1,-q2],[0,0,1,0]] 4 0) [1,0,p0,0])=[p0,p1,p2].getD (0+1) 0-p0*(1::[q1,q2]:List Rat).getD (0+1) 0
   rw[m0]
   simp [mvQ,dotQ]
   try grind
  ·show dotQ [p1,p2,-q1,-q2] (mvQ (flM [[0,0,0,0],[1,0,0,0],[p1,p2,-q1,-q2],[0,0,1,0]] 4 1) [1,0,p0,0])=[p0,p1,p2].getD (1+1) 0-p0*(1::[q1,q2]:List Rat).getD (1+1) 0
   rw[m1]
   simp [mvQ,dotQ]
   try grind
  ·show dotQ [p1,p2,-q1,-q2] (mvQ (flM [[0,0,0,0],[1,0,0,0],[p1,p2,-q1,-q2],[0,0,1,0]] 4 2) [1,0,p0,0])=[p0,p1,p2].getD (2+1) 0-p0*(1::[q1,q2]:List Rat).getD (2+1) 0
   rw[m2]
   simp [mvQ,dotQ]
   try grind
  ·show dotQ [p1,p2,-q1,-q2] (mvQ (flM [[0,0,0,0],[1,0,0,0],[p1,p2,-q1,-q2],[0,0,1,0]] 4 3) [1,0,p0,0])=[p0,p1,p2].getD (3+1) 0-p0*(1::[q1,q2]:List Rat).getD (3+1) 0
   rw[m3]
   simp [mvQ,dotQ]
   try grind
theorem two_eq (P Q:List Int) (D C:Wd) (u:Rat) (hu:u≠0) (e:((pw C.f:Int):Rat)=u) (hP:1≤P.length∧P.length≤3) (hQ:Q.length≤2):linQ (formTwoS P Q D C)=ctlQ (fracs u P) (1::fracs u Q) (maxN P Q):=by
 rcases P with _|⟨a0,_|⟨a1,_|⟨a2,_|⟨a3,P⟩⟩⟩⟩
 ·simp at hP
 ·rcases Q with _|⟨d1,_|⟨d2,_|⟨d3,Q⟩⟩⟩
  ·exact lin_two10 a0 D C u hu e
  ·exact lin_two11 a0 d1 D C u hu e
  ·exact lin_two12 a0 d1 d2 D C u hu e
  ·simp at hQ
 ·rcases Q with _|⟨d1,_|⟨d2,_|⟨d3,Q⟩⟩⟩
  ·exact lin_two20 a0 a1 D C u hu e
  ·exact lin_two21 a0 a1 d1 D C u hu e
  ·exact lin_two22 a0 a1 d1 d2 D C u hu e
  ·simp at hQ
 ·rcases Q with _|⟨d1,_|⟨d2,_|⟨d3,Q⟩⟩⟩
  ·exact lin_two30 a0 a1 a2 D C u hu e
  ·exact lin_two31 a0 a1 a2 d1 D C u hu e
  ·exact lin_two32 a0 a1 a2 d1 d2 D C u hu e
  ·simp at hQ
 ·simp at hP
theorem tr_eq (P Q:List Int) (D C:Wd) (u:Rat) (hu:u≠0) (e:((pw C.f:Int):Rat)=u) (hP:1≤P.length∧P.length≤3) (hQ:Q.length≤2):linQ (transS P Q D C)=obsQ (fracs u P) (1::fracs u Q) (maxN P Q):=by
 rcases P with _|⟨a0,_|⟨a1,_|⟨a2,_|⟨a3,P⟩⟩⟩⟩
 ·simp at hP
 ·rcases Q with _|⟨d1,_|⟨d2,_|⟨d3,Q⟩⟩⟩
  ·exact lin_tr10 a0 D C u hu e
  ·exact lin_tr11 a0 d1 D C u hu e
  ·exact lin_tr12 a0 d1 d2 D C u hu e
  ·simp at hQ
 ·rcases Q with _|⟨d1,_|⟨d2,_|⟨d3,Q⟩⟩⟩
  ·exact lin_tr20 a0 a1 D C u hu e
  ·exact lin_tr21 a0 a1 d1 D C u hu e
  ·exact lin_tr22 a0 a1 d1 d2 D C u hu e
  ·simp at hQ
 ·rcases Q with _|⟨d1,_|⟨d2,_|⟨d3,Q⟩⟩⟩
  ·exact lin_tr30 a0 a1 a2 D C u hu e
  ·exact lin_tr31 a0 a1 a2 d1 D C u hu e
  ·exact lin_tr32 a0 a1 a2 d1 d2 D C u hu e
  ·simp at hQ
 ·simp at hP
theorem one_good (P Q:List Int) (D C:Wd) (u:Rat) (hu:u≠0) (e:((pw C.f:Int):Rat)=u) (hP:1≤P.length∧P.length≤3) (hQ:Q.length≤2) (bP : ∀ v∈P,Bt 80 ((v:Rat)/u)) (bQ : ∀ v∈Q,Bt 80 ((v:Rat)/u)):(linQ (formOneS P Q D C)).Ok (P.length-1+Q.length) 80∧tfA (linQ (formOneS P Q D C)) (P.length-1+Q.length)=trimQ (1::fracs u Q)∧tfB (linQ (formOneS P Q D C)) (P.length-1+Q.length)=trimQ (fracs u P):=by
 rcases P with _|⟨a0,_|⟨a1,_|⟨a2,_|⟨a3,P⟩⟩⟩⟩
 ·simp at hP
 ·rcases Q with _|⟨d1,_|⟨d2,_|⟨d3,Q⟩⟩⟩
  ·rw[lin_one10 a0 D C u hu e];exact ⟨one_ok10 ((a0:Rat)/u) (bP _ (by simp)),one_tf10 ((a0:Rat)/u)⟩
  ·rw[lin_one11 a0 d1 D C u hu e];exact ⟨one_ok11 ((a0:Rat)/u) ((d1:Rat)/u) (bP _ (by simp)) (bQ _ (by simp)),one_tf11 ((a0:Rat)/u) ((d1:Rat)/u)⟩
  ·rw[lin_one12 a0 d1 d2 D C u hu e];exact ⟨one_ok12 ((a0:Rat)/u) ((d1:Rat)/u) ((d2:Rat)/u) (bP _ (by simp)) (bQ _ (by simp)) (bQ _ (by simp)),one_tf12 ((a0:Rat)/u) ((d1:Rat)/u) ((d2:Rat)/u)⟩
  ·simp at hQ
 ·rcases Q with _|⟨d1,_|⟨d2,_|⟨d3,Q⟩⟩⟩
  ·rw[lin_one20 a0 a1 D C u hu e];exact ⟨one_ok20 ((a0:Rat)/u) ((a1:Rat)/u) (bP _ (by simp)) (bP _ (by simp)),one_tf20 ((a0:Rat)/u) ((a1:Rat)/u)⟩
  ·rw[lin_one21 a0 a1 d1 D C u hu e];exact ⟨one_ok21 ((a0:Rat)/u) ((a1:Rat)/u) ((d1:Rat)/u) (bP _ (by simp)) (bP _ (by simp)) (bQ _ (by simp)),one_tf21 ((a0:Rat)/u) ((a1:Rat)/u) ((d1:Rat)/u)⟩
  ·rw[lin_one22 a0 a1 d1 d2 D C u hu e];exact ⟨one_ok22 ((a0:Rat)/u) ((a1:Rat)/u) ((d1:Rat)/u) ((d2:Rat)/u) (bP _ (by simp)) (bP _ (by simp)) (bQ _ (by simp)) (bQ _ (by simp)),one_tf22 ((a0:Rat)/u) ((a1:Rat)/u) ((d1:Rat)/u) ((d2:Rat)/u)⟩
  ·simp at hQ
 ·rcases Q with _|⟨d1,_|⟨d2,_|⟨d3,Q⟩⟩⟩
  ·rw[lin_one30 a0 a1 a2 D C u hu e];exact ⟨one_ok30 ((a0:Rat)/u) ((a1:Rat)/u) ((a2:Rat)/u) (bP _ (by simp)) (bP _ (by simp)) (bP _ (by simp)),one_tf30 ((a0:Rat)/u) ((a1:Rat)/u) ((a2:Rat)/u)⟩
  ·rw[lin_one31 a0 a1 a2 d1 D C u hu e];exact ⟨one_ok31 ((a0:Rat)/u) ((a1:Rat)/u) ((a2:Rat)/u) ((d1:Rat)/u) (bP _ (by simp)) (bP _ (by simp)) (bP _ (by simp)) (bQ _ (by simp)),one_tf31 ((a0:Rat)/u) ((a1:Rat)/u) ((a2:Rat)/u) ((d1:Rat)/u)⟩
  ·rw[lin_one32 a0 a1 a2 d1 d2 D C u hu e];exact ⟨one_ok32 ((a0:Rat)/u) ((a1:Rat)/u) ((a2:Rat)/u) ((d1:Rat)/u) ((d2:Rat)/u) (bP _ (by simp)) (bP _ (by simp)) (bP _ (by simp)) (bQ _ (by simp)) (bQ _ (by simp)),one_tf32 ((a0:Rat)/u) ((a1:Rat)/u) ((a2:Rat)/u) ((d1:Rat)/u) ((d2:Rat)/u)⟩
  ·simp at hQ
 ·simp at hP
theorem ctl_okK {B A:List Rat} {n k:Nat} (hB:Bs k B) (hA:Bs k A) (hk:3*k+1≤80):(ctlQ B A n).Ok n 80:=by
 have gb : ∀ {l:List Rat} (i:Nat),Bs k l→Bt k (l.getD i 0):=fun {l} i h=>by
  rw[List.getD_eq_getElem?_getD]
  cases e:l[i]? with
  | none=>exact Bt.zero k
  | some x=>exact h.at e
 have hu : ∀ j,Bs 80 (unitL n j):=fun j x hx=>by
  simp only[unitL,List.mem_map]at hx
  obtain ⟨i,_,rfl⟩:=hx
  split
  ·exact Bt.one _
  ·exact Bt.zero _
 refine ⟨by simp [ctlQ],?_,unitL_len _ _,by simp [ctlQ],?_,hu 0,?_,(gb 0 hB).le (by omega)⟩
 ·intro r hr
  simp only[ctlQ,List.mem_map]at hr
  obtain ⟨i,_,rfl⟩:=hr
  split
  ·simp
  ·exact unitL_len _ _
 ·intro r hr
  simp only[ctlQ,List.mem_map]at hr
  obtain ⟨i,_,rfl⟩:=hr
  split
  ·intro x hx
   obtain ⟨j,_,rfl⟩:=List.mem_map.1 hx
   exact (gb _ hA).neg0.le (by omega)
  ·exact hu _
 ·intro x hx
  simp only[ctlQ,List.mem_map]at hx
  obtain ⟨i,_,rfl⟩:=hx
  rw[Rat.sub_eq_add_neg]
  exact ((gb _ hB).add ((gb 0 hB).mul (gb _ hA)).neg0).le (by omega)
theorem obs_okK {B A:List Rat} {n:Nat} (h:(ctlQ B A n).Ok n 80):(obsQ B A n).Ok n 80:=by
 refine ⟨by simp [obsQ],?_,h.lc,h.lb,?_,h.bc,h.bb,h.bd⟩
 ·intro r hr
  simp only[obsQ,List.mem_map]at hr
  obtain ⟨i,_,rfl⟩:=hr
  simp [colQ,ctlQ]
 ·intro r hr
  simp only[obsQ,List.mem_map]at hr
  obtain ⟨i,_,rfl⟩:=hr
  intro x hx
  simp only[colQ,List.mem_map]at hx
  obtain ⟨r,hr,rfl⟩:=hx
  rw[List.getD_eq_getElem?_getD]
  cases e:r[i]? with
  | none=>exact Bt.zero _
  | some x=>exact (h.ba r hr).at e
end Go.Eng

namespace Go.Eng
open F
attribute [local irreducible] AKM CmpP Req OpP UnP ConvP RdP LdR StR MkR LenP AppR AppN CpyR RowP SnR Bds SlS CallP CalP FinP pw LdM GetM SetM PutM MkM AppM SnM FlP CallR
set_option maxHeartbeats 4000000
variable {L:Lib}
def wrongD (b a:List Int) (d c:Wd):Int:=if WV d∧WV c then (if b.length=0∨49<b.length∨8<a.length then 12 else if wordsB c b&&(wordsB c a&&wordsB c (a.map (- ·))) then 0 else 17) else 2
def pmB (c:Wd) (l:List Int):Bool:=l.all fun v=>decide (FT c v)&&decide (FT c (-v))
theorem pmB_eq (c:Wd) : ∀ l:List Int,pmB c l=(wordsB c l&&wordsB c (l.map (- ·)))
 | []=>rfl
 | v::l=>by
  have ih:=pmB_eq c l
  simp only[pmB,wordsB,List.all_cons,List.map_cons]at ih ⊢
  rw[ih]
  cases decide (FT c v)<;>cases decide (FT c (-v))<;>simp
theorem FT_neg_rng {c:Wd} {v:Int} (h:FT c v) : -9223372036854775808 ≤ -v ∧ -v≤9223372036854775807:=by
 obtain ⟨hw,e1,e2⟩:=h
 obtain ⟨h1,h2,h3,h4⟩:=low_high hw
 omega
theorem ev_wrongG (I:FixedLib L) (D:DirectGLib L) (b a:List Int) (q1 q2:Bool) (d c:Wd) (hb:b.length<9223372036854775808) (ha:a.length<9223372036854775808) :
  Ev L 46 [.sl q1 (b.map encInt),.sl q2 (a.map encInt),.agg (encW d),.agg (encW c)] (.int .i64 (wrongD b a d c)):=by
 refine Ev.x D.direct_wrong rfl rfl ?_
 by_cases hv:WV d∧WV c
 ·by_cases hl:b.length=0∨49<b.length∨8<a.length
  ·have hw:wrongD b a d c=12:=by rw[wrongD,if_pos hv,if_pos hl]
   rw[hw]
   (repeat' (first|(refine CmpP.go (fun hc => ?_) (fun hc => ?_)<;>first|(exfalso;omega)|(conv=>whnf))|(refine LenP.go ?_;conv=>whnf)|(refine AKM.x ?_;conv=>whnf)|(refine CallP.b (ev_fixed_Valid ⟨_,_,_,_⟩ I) (fun hf => ?_) (fun hf => ?_)<;>(conv=>whnf))))
   all_goals first|exact FinP.i rfl|(exfalso;omega)|exact absurd hv.1 (by assumption)|exact absurd hv.2 (by assumption)
  ·have hw:wrongD b a d c=if wordsB c b&&pmB c a then 0 else 17:=by rw[wrongD,if_pos hv,if_neg hl,pmB_eq]
   rw[hw]
   (repeat' (first|(refine CmpP.go (fun hc => ?_) (fun hc => ?_)<;>first|(exfalso;omega)|(conv=>whnf))|(refine LenP.go ?_;conv=>whnf)|(refine AKM.x ?_;conv=>whnf)|(refine CallP.b (ev_fixed_Valid ⟨_,_,_,_⟩ I) (fun hf => ?_) (fun hf => ?_)<;>(conv=>whnf))))
   all_goals try exact absurd hv.1 (by assumption)
   all_goals try exact absurd hv.2 (by assumption)
   all_goals try (exfalso;omega)
   refine AKM.loop1 (fun i=>b.length-i) (fun (i:Nat)=>i≤b.length∧wordsB c (b.drop i)=wordsB c b) (fun i=>[(36,.int .i64 i)]) (fun _=>[]) [] [] 0 (by (conv=>whnf);exact ⟨rfl,rfl,rfl⟩) ⟨by omega,rfl⟩ ?_
   intro i ⟨p1,p2⟩ ih
   (repeat' (first|(refine CmpP.go (fun hc => ?_) (fun hc => ?_)<;>first|(exfalso;omega)|(conv=>whnf))|(refine OpP.add ?_ ?_;omega;conv=>whnf)|(refine LenP.go ?_;conv=>whnf)|(refine RdP.nat ?_ (fun _=>rfl) (fun e he => ?_);omega;conv=>whnf)|(refine AKM.x ?_;conv=>whnf)|(refine CallP.b (ev_fixed_Fits ⟨_,_,_,_⟩ I _) (fun hf => ?_) (fun hf => ?_)<;>(conv=>whnf))))
   ·rw[drop_cons he,wordsB,List.all_cons,decide_eq_true hf,Bool.true_and]at p2
    exact AKM.back [] (by (conv=>whnf);exact ⟨rfl,rfl,rfl⟩) (ih (i+1) (by omega) ⟨by omega,p2⟩)
   ·rw[drop_cons he,wordsB,List.all_cons,decide_eq_false hf,Bool.false_and]at p2
    exact FinP.i (by rw[←p2];simp)
   ·rw[drop_len (by omega)]at p2
    rw[←p2,show wordsB c []=true from rfl,Bool.true_and]
    refine AKM.loop1 (fun i=>a.length-i) (fun (i:Nat)=>i≤a.length∧pmB c (a.drop i)=pmB c a) (fun i=>[(47,.int .i64 i)]) (fun _=>[]) [] [] 0 (by (conv=>whnf);exact ⟨rfl,rfl,rfl⟩) ⟨by omega,rfl⟩ ?_
    intro j ⟨r1,r2⟩ ih2
    (repeat' (first|(refine CmpP.go (fun hc => ?_) (fun hc => ?_)<;>first|(exfalso;omega)|(conv=>whnf))|(refine RdP.nat ?_ (fun _=>rfl) (fun e he => ?_);omega;conv=>whnf)|(refine AKM.x ?_;conv=>whnf)|(refine CallP.b (ev_fixed_Fits ⟨_,_,_,_⟩ I _) (fun hf => ?_) (fun hf => ?_)<;>(conv=>whnf))))
    ·have hfe:=FT_neg_rng hf
     have hf0:=hf
     (repeat' (first|(refine OpP.add ?_ ?_;omega;conv=>whnf)|(refine UnP.neg ?_ ?_;omega;conv=>whnf)|(refine CallP.b (ev_fixed_Fits ⟨_,_,_,_⟩ I _) (fun hf => ?_) (fun hf => ?_)<;>(conv=>whnf))))
     ·rw[drop_cons he,pmB,List.all_cons,decide_eq_true hf0,decide_eq_true hf,Bool.true_and,Bool.true_and]at r2
      exact AKM.back [] (by (conv=>whnf);exact ⟨rfl,rfl,rfl⟩) (ih2 (j+1) (by omega) ⟨by omega,r2⟩)
     ·rw[drop_cons he,pmB,List.all_cons,decide_eq_true hf0,decide_eq_false hf,Bool.and_false,Bool.false_and]at r2
      exact FinP.i (by rw[←r2];rfl)
    ·rw[drop_cons he,pmB,List.all_cons,decide_eq_false hf,Bool.false_and,Bool.false_and]at r2
     exact FinP.i (by rw[←r2];rfl)
    ·rw[drop_len (by omega)]at r2
     exact FinP.i (by rw[←r2];rfl)
 ·have hw:wrongD b a d c=2:=by rw[wrongD,if_neg hv]
  rw[hw]
  by_cases hd:WV d
  ·have hcw : ¬ WV c:=fun h=>hv ⟨hd,h⟩
   (repeat' (first|(refine CmpP.go (fun hc => ?_) (fun hc => ?_)<;>first|(exfalso;omega)|(conv=>whnf))|(refine LenP.go ?_;conv=>whnf)|(refine AKM.x ?_;conv=>whnf)|(refine CallP.b (ev_fixed_Valid ⟨_,_,_,_⟩ I) (fun hf => ?_) (fun hf => ?_)<;>(conv=>whnf))))
   all_goals first|exact FinP.i rfl|(exfalso;first|exact absurd hd (by assumption)|exact hcw (by assumption))
  ·(repeat' (first|(refine CmpP.go (fun hc => ?_) (fun hc => ?_)<;>first|(exfalso;omega)|(conv=>whnf))|(refine LenP.go ?_;conv=>whnf)|(refine AKM.x ?_;conv=>whnf)|(refine CallP.b (ev_fixed_Valid ⟨_,_,_,_⟩ I) (fun hf => ?_) (fun hf => ?_)<;>(conv=>whnf))))
   all_goals first|exact FinP.i rfl|exact absurd (by assumption) hd
theorem ev_Value (I:FixedLib L) (N:BldGLib L) (c:Wd) (v:Int) (hc:WV c) (hv:InI v):Ev L 175 [.agg (encW c),.int .i64 v] (.agg (eQ (Rat.divInt v (pw c.f)))):=by
 have hV:=ev_fixed_Valid c I
 rw[decide_eq_true hc]at hV
 have hc':=hc
 unfold WV at hc'
 have h1:=pw_pos c.f
 have h2:=pw_le62 (n:=c.f) (by omega)
 unfold InI at hv
 have hF:=ev_FracQ N.toRatHLib v (pw c.f) hv (by omega) (by omega)
 refine Ev.x N.fixed_Value rfl rfl ?_
 (repeat' (first|(refine OpP.shl1 ?_ (fun _ _ => ?_);omega;conv=>whnf)|(refine AKM.x ?_;conv=>whnf)|(refine CallP.go (hV) ?_;conv=>whnf)|(refine CallP.go (hF) ?_;conv=>whnf)))
 exact FinP.go rfl (cl_eQ _)
end Go.Eng

namespace Go.Eng
open F
attribute [local irreducible] AKM CmpP Req OpP UnP ConvP RdP LdR StR MkR LenP AppR AppN CpyR RowP SnR Bds SlS CallP CalP FinP pw LdM GetM SetM PutM MkM AppM SnM FlP CallR
set_option maxHeartbeats 4000000
variable {L:Lib}
variable (b a:List Int) (d c:Wd)
structure OkD:Prop where
 hd:WV d
 hc:WV c
 l1:1≤b.length∧b.length≤49
 l2:a.length≤8
 wb : ∀ v∈b,FT c v
 wa : ∀ v∈a,FT c v∧FT c (-v)
theorem okD_of (h:wrongD b a d c=0):OkD b a d c:=by
 unfold wrongD at h
 split at h
 ·rename_i h1
  split at h
  ·cases h
  ·split at h
   ·rename_i h2 h3
    simp only[Bool.and_eq_true,wordsB,List.all_eq_true,decide_eq_true_eq]at h3
    exact ⟨h1.1,h1.2,by omega,by omega,h3.1,fun v hv=>⟨h3.2.1 v hv,h3.2.2 (-v) (List.mem_map_of_mem hv)⟩⟩
   ·cases h
 ·cases h
variable {b a d c}
end Go.Eng

namespace Go.Eng
open F
attribute [local irreducible] AKM CmpP Req OpP UnP ConvP RdP LdR StR MkR LenP AppR AppN CpyR RowP SnR Bds SlS CallP CalP FinP pw LdM GetM SetM PutM MkM AppM SnM FlP CallR
set_option maxHeartbeats 8000000
variable {L:Lib}
end Go.Eng

namespace Go.Eng
open F
attribute [local irreducible] AKM CmpP Req OpP UnP ConvP RdP LdR StR MkR LenP AppR AppN CpyR RowP SnR Bds SlS CallP CalP FinP pw LdM GetM SetM PutM MkM AppM SnM FlP CallR
set_option maxHeartbeats 8000000
variable {L:Lib}
def numQ (c:Wd) (l:List Int):List Rat:=l.map fun v=>Rat.divInt v (pw c.f)
theorem num_bt {c:Wd} (hc:WV c) {v:Int} (hv : -9223372036854775808≤v∧v≤9223372036854775807):Bt 64 (Rat.divInt v (pw c.f)):=by
 unfold WV at hc
 have hpl:=pw_le (n:=c.f) (m:=23) (by omega)
 have hp23:pw 23=8388608:=by unfold pw;rfl
 have hpp:=pw_pos c.f
 obtain ⟨d,hd⟩:=Int.eq_ofNat_of_zero_le (show 0≤pw c.f by omega)
 rw[hd,Rat.divInt_ofNat]
 rw[hd]at hpl
 refine Bt.mk ?_ ?_
 ·show _≤18446744073709551616;omega
 ·show _≤18446744073709551616;omega
theorem num_bs {c:Wd} (hc:WV c) {l:List Int} (hl : ∀ v∈l,-9223372036854775808≤v∧v≤9223372036854775807):Bs 64 (numQ c l):=by
 intro x hx
 simp only[numQ,List.mem_map]at hx
 obtain ⟨v,hv,rfl⟩:=hx
 exact num_bt hc (hl v hv)
theorem numQ_len (c:Wd) (l:List Int):(numQ c l).length=l.length:=by simp [numQ]
end Go.Eng

namespace Go.Eng
open F
attribute [local irreducible] AKM CmpP Req OpP UnP ConvP RdP LdR StR MkR LenP AppR AppN CpyR RowP SnR Bds SlS CallP CalP FinP pw LdM GetM SetM PutM MkM AppM SnM FlP CallR
attribute [local irreducible] AeqP
set_option maxHeartbeats 8000000
variable {L:Lib}
end Go.Eng

namespace Go.Eng
open F
attribute [local irreducible] AKM CmpP Req OpP UnP ConvP RdP LdR StR MkR LenP AppR AppN CpyR RowP SnR Bds SlS CallP CalP FinP pw LdM GetM SetM PutM MkM AppM SnM FlP CallR
set_option maxHeartbeats 8000000
variable {L:Lib}
theorem sgn_num0 {x:Rat}:sgn x.num=0↔x=0:=by
 rw[←Rat.num_eq_zero]
 unfold sgn;split<;>(try split)<;>omega
theorem ev_Ideal (I:FixedLib L) (N:BldGLib L) (q1 q2:Bool) {b a:List Int} {c:Wd} (h:OkD b a c c) (h0:wrongD b a c c=0):Ev L 174 [.sl q1 (b.map encInt),.sl q2 (a.map encInt),.agg (encW c)] (.tup [.agg [.sl false ((trimQ (numQ c b)).map eQ),.sl false ((trimQ (((1:Int):Rat)::numQ c a)).map eQ)],.int .i64 0]):=by
 have hw:=fun q q'=>ev_wrongG I N.toDirectGLib b a q q' c c (by have:=h.l1;omega) (by have:=h.l2;omega)
 rw[h0]at hw
 obtain ⟨hd,hcw,l1,l2,wb,wa⟩:=h
 have rb : ∀ v∈b,InI v:=fun v hv=>by have:=FT_rng hcw (wb v hv);unfold InI;omega
 have ra : ∀ v∈a,InI v:=fun v hv=>by have:=FT_rng hcw (wa v hv).1;unfold InI;omega
 have hQb:=numQ_len c b
 have hO:=ev_rational_Of N.toRatGLib 1 (by omega)
 refine Ev.x N.direct_Ideal rfl rfl ?_
 (repeat' (first|(refine CmpP.go (fun hc => ?_) (fun hc => ?_)<;>first|(exfalso;omega)|(conv=>whnf))|(refine LenP.go ?_;conv=>whnf)|(refine AKM.x ?_;conv=>whnf)|(refine CallP.go (hw _ _) ?_;conv=>whnf)))
 refine MkR.go (enc:=eO) none b.length rfl rfl (by omega) ?_
 (conv=>whnf)
 (repeat' (refine LenP.go ?_;conv=>whnf))
 refine AKM.loop1 (fun i=>b.length-i) (fun (i:Nat)=>i≤b.length) (fun i=>[(29,.int .i64 i)]) (fun i=>[(26,26,.rw 3 ((fillO ((numQ c b).take i) b.length).map eO))]) [] [] 0 (by first|exact (by (conv=>whnf);exact ⟨rfl,rfl,rfl⟩)|(rw[List.take_zero,←fillO_nil];exact (by (conv=>whnf);exact ⟨rfl,rfl,rfl⟩))) (by omega) ?_
 intro i p1 ih
 by_cases hi:i<b.length
 ·obtain ⟨v,hv⟩ : ∃ v,b[i]? = some v:=⟨_,List.getElem?_eq_getElem hi⟩
  have hv':b[(i:Int).toNat]? = some v:=hv
  have hV:=ev_Value I N c v hcw (rb v (List.mem_of_getElem? hv))
  have hti:((numQ c b).take i).length=i:=by rw[List.length_take];omega
  have hl:=fillO_len (l:=(numQ c b).take i) (m:=b.length) (by omega)
  have hs:=fillO_set (l:=(numQ c b).take i) (m:=b.length) (x:=Rat.divInt v (pw c.f)) (by omega)
  have hqi:(numQ c b)[i]? = some (Rat.divInt v (pw c.f)):=by rw[numQ,List.getElem?_map,hv];rfl
  rw[hti,←take_snocQ hqi]at hs
  (repeat' (first|(refine CmpP.go (fun hc => ?_) (fun hc => ?_)<;>first|(exfalso;omega)|(conv=>whnf))|(refine Req.go ?_ ?_;omega;conv=>whnf)|(refine RdP.at (by assumption) ?_ rfl ?_;omega;conv=>whnf)|(refine AKM.x ?_;conv=>whnf)|(refine CallP.go (hV) ?_;conv=>whnf)))
  refine StR.nat (enc:=eO) (some (Rat.divInt v (pw c.f))) rfl (fun e=>by cases e<;>rfl) (by omega) ?_
  (conv=>whnf)
  (repeat' (refine OpP.add ?_ ?_;omega;conv=>whnf))
  rw[hs]
  exact AKM.back [] (by (conv=>whnf);exact ⟨rfl,rfl,rfl⟩) (ih (i+1) (by omega) (by omega))
 ·obtain rfl:i=b.length:=by omega
  clear ih
  rw[List.take_of_length_le (Nat.le_of_eq hQb),fillO_full hQb]
  (repeat' (first|(refine CmpP.go (fun hc => ?_) (fun hc => ?_)<;>first|(exfalso;omega)|(conv=>whnf))|(refine LenP.go ?_;conv=>whnf)|(refine AKM.x ?_;conv=>whnf)|(refine CallP.go (hO) ?_;conv=>whnf)))
  have hPl:(((1:Int):Rat)::numQ c a).length=a.length+1:=by rw[List.length_cons,numQ_len]
  have hQr:=num_bs hcw (fun v hv=>ra v hv)
  have hQs:=num_bs hcw (fun v hv=>rb v hv)
  have hPs:Bs 64 (((1:Int):Rat)::numQ c a):=by
   intro x hx
   rcases List.mem_cons.1 hx with rfl|hx
   ·exact Bt.one 64
   ·exact hQr x hx
  generalize hl:((1:Int):Rat)::numQ c a=r at *
  have hl0:r.take 1=[((1:Int):Rat)]:=by rw[←hl];rfl
  have hat : ∀ i v,a[i]? = some v→r[i+1]? = some (Rat.divInt v (pw c.f)):=fun i v h=>by rw[←hl,List.getElem?_cons_succ,numQ,List.getElem?_map,h];rfl
  rw[show ([[AV.bool (decide (((1:Int):Rat).num<0)),AV.sl false ((dg ((1:Int):Rat).num.natAbs).map e32),AV.sl false ((dg ((1:Int):Rat).den).map e32)]]:List (List AV))=(r.take (0+1)).map eQ by rw[hl0];rfl]
  refine AKM.loop1 (fun i=>a.length-i) (fun (i:Nat)=>i≤a.length) (fun i=>[(45,.int .i64 i),(12,.row 42 0 3 0 (i+1))]) (fun i=>[(42,42,.rw 3 ((r.take (i+1)).map eQ))]) [] [] 0 (by (conv=>whnf);exact ⟨rfl,rfl,rfl⟩) (by omega) ?_
  intro i g1 ih
  have hti:(r.take (i+1)).length=i+1:=by rw[List.length_take];omega
  by_cases hi:i<a.length
  ·obtain ⟨v,hv⟩ : ∃ v,a[i]? = some v:=⟨_,List.getElem?_eq_getElem hi⟩
   have hv':a[(i:Int).toNat]? = some v:=hv
   have hV:=ev_Value I N c v hcw (ra v (List.mem_of_getElem? hv))
   have hsn:=take_snocQ (hat i v hv)
   have hti1:(r.take (i+1+1)).length=i+1+1:=by rw[List.length_take];omega
   (repeat' (first|(refine CmpP.go (fun hc => ?_) (fun hc => ?_)<;>first|(exfalso;omega)|(conv=>whnf))|(refine RdP.at (by assumption) ?_ rfl ?_;omega;conv=>whnf)|(refine RowP.e1 ?_;conv=>whnf)|(refine AKM.x ?_;conv=>whnf)|(refine CallP.go (hV) ?_;conv=>whnf)))
   refine AppR.one (enc:=eQ) (Rat.divInt v (pw c.f)) rfl hti.symm rfl (by omega) (by omega) ?_
   rw[←hsn,hti1]
   (conv=>whnf)
   (repeat' (refine OpP.add ?_ ?_;omega;conv=>whnf))
   exact AKM.back [(42,54)] (by (conv=>whnf);exact ⟨rfl,rfl,rfl⟩) (ih (i+1) (by omega) (by omega))
  ·obtain rfl:i=a.length:=by omega
   rw[←hPl,List.take_of_length_le (Nat.le_refl r.length)]
   clear ih hti
   generalize numQ c b=l at *
   rw[←hQb]
   (repeat' (first|(refine CmpP.go (fun hc => ?_) (fun hc => ?_)<;>first|(exfalso;omega)|(conv=>whnf))|(refine AKM.x ?_;conv=>whnf)))
   refine CalP.walk 1000 N.poly_Trim rfl rfl ?_
   (repeat' (refine AKM.x ?_;conv=>whnf))
   refine CalP.walk 1000 N.poly_cut rfl rfl ?_
   (repeat' (refine AKM.x ?_;conv=>whnf))
   refine AKM.loop1 (fun n=>n) (fun (n:Nat)=>n≤l.length∧cutN l l.length=cutN l n) (fun n=>[(3,.int .i64 n)]) (fun _=>[(26,26,.rw 3 (l.map eQ))]) [] [] l.length (by (conv=>whnf);exact ⟨rfl,rfl,rfl⟩) ⟨Nat.le_refl _,rfl⟩ ?_
   intro n ⟨p1,p2⟩ ih
   have done : ∀ {n:Nat},cutN l l.length=n→trimQ l=l.take n:=fun h=>by rw[trimQ,h]
   by_cases hz:n=0∨(∃ m x,n=m+1∧l[m]? = some x∧x≠0)
   ·have hcut:cutN l l.length=n:=by
     rw[p2]
     rcases hz with rfl|⟨m,x,rfl,h1,h2⟩
     ·rfl
     ·rw[cutN,if_neg]
      rw[List.getD_eq_getElem?_getD,h1];exact h2
    have htq:=done hcut
    have htl:(l.take n).length=n:=by rw[List.length_take];omega
    clear ih hcut p2 done
    rcases hz with h0|⟨m,x,hnm,h1,h2⟩
    case' inl=>(repeat' (first|(refine CmpP.go (fun hc => ?_) (fun hc => ?_)<;>first|(exfalso;omega)|(conv=>whnf))|(refine AKM.x ?_;conv=>whnf)))
    case' inr =>
     have h1':l[((n:Int)-1).toNat]? = some x:=by rw[show ((n:Int)-1).toNat=m by omega];exact h1
     have hS':=ev_signQ N.toRatGLib (hQs.at h1) (by omega)
     have hs:=sgn_num0 (x:=x)
     generalize sgn x.num=s at *
     have hS : ∀ v,l[((n:Int)-1).toNat]? = some v→Ev L 97 [.agg (eQ v)] (.int .i64 s):=fun v h=>by
      obtain rfl:=Option.some.inj (h1'.symm.trans h)
      exact hS'
     have hs0:s≠0:=fun h=>h2 (hs.1 h)
     (repeat' (first|(refine CmpP.go (fun hc => ?_) (fun hc => ?_)<;>first|(exfalso;omega)|(conv=>whnf))|(refine Req.go ?_ ?_;omega;conv=>whnf)|(refine OpP.sub ?_ ?_;omega;conv=>whnf)|(refine LdR.int ?_ (fun _=>rfl) (fun v hv => ?_);omega;conv=>whnf)|(refine AKM.x ?_;conv=>whnf)|(refine CallP.go (hS _ hv) ?_;conv=>whnf)))
    all_goals
     refine Bds.up n (by omega) (by omega) ?_
     (conv=>whnf)
     skip
     refine ⟨rfl,_,rfl,?_⟩
     (conv=>whnf)
     skip
     refine MkR.go (enc:=eO) none n rfl rfl (by omega) ?_
     (conv=>whnf)
     skip
     refine AKM.loop1 (fun i=>n-i) (fun (i:Nat)=>i≤n) (fun i=>[(11,.int .i64 i)]) (fun i=>[(170008,170008,.rw 3 ((fillO (l.take i) n).map eO)),(26,26,.rw 3 (l.map eQ))]) [] [] 0 (by first|exact (by (conv=>whnf);exact ⟨rfl,rfl,rfl⟩)|(rw[List.take_zero,←fillO_nil];exact (by (conv=>whnf);exact ⟨rfl,rfl,rfl⟩))) (by omega) ?_
     intro i g1 ih
     by_cases hi:i<n
     ·all_goals try (exfalso;omega)
      all_goals
       obtain ⟨y,hy⟩ : ∃ y,l[i]? = some y:=⟨_,List.getElem?_eq_getElem (by omega)⟩
       have hy':l[(i:Int).toNat]? = some y:=hy
       have hti:(l.take i).length=i:=by rw[List.length_take];omega
       have hl:=fillO_len (l:=l.take i) (m:=n) (by omega)
       have hst:=fillO_set (l:=l.take i) (m:=n) (x:=y) (by omega)
       rw[hti,←take_snocQ hy]at hst
       have hT':=ev_trimQ N.toRatGLib (hQs.at hy) (by omega)
       have hT : ∀ v,l[(i:Int).toNat]? = some v→Ev L 95 [.agg (eQ v)] (.agg (eQ y)):=fun v h=>by
        obtain rfl:=Option.some.inj (hy'.symm.trans h)
        exact hT'
       (repeat' (first|(refine CmpP.go (fun hc => ?_) (fun hc => ?_)<;>first|(exfalso;omega)|(conv=>whnf))|(refine Req.go ?_ ?_;omega;conv=>whnf)|(refine LdR.nat ?_ (fun _=>rfl) (fun v hv => ?_);omega;conv=>whnf)|(refine AKM.x ?_;conv=>whnf)|(refine CallP.go (hT _ hv) ?_;conv=>whnf)))
       refine StR.nat (enc:=eO) (some y) rfl (fun e=>by cases e<;>rfl) (by omega) ?_
       (conv=>whnf)
       (repeat' (refine OpP.add ?_ ?_;omega;conv=>whnf))
       rw[hst]
       exact AKM.back [] (by (conv=>whnf);exact ⟨rfl,rfl,rfl⟩) (ih (i+1) (by omega) (by omega))
     ·obtain rfl:i=n:=by omega
      clear ih
      rw[fillO_full htl,←htq]at *
      rw[←htq]at htl
      (repeat' (first|(refine CmpP.go (fun hc => ?_) (fun hc => ?_)<;>first|(exfalso;omega)|(conv=>whnf))|(refine AKM.x ?_;conv=>whnf)))
      refine ⟨rfl,_,rfl,?_⟩
      (conv=>whnf)
      skip
      have htlB:=htl
      have hcl:Clean (.tup [.agg [.sl false ((trimQ l).map eQ),.sl false ((trimQ r).map eQ)],.int .i64 0]):=by
       simp only[Clean,CleanL,true_and,and_true]
       exact ⟨cl_eQs _,cl_eQs _⟩
      clear htq htl
      refine CalP.walk 1000 N.poly_Trim rfl rfl ?_
      (repeat' (refine AKM.x ?_;conv=>whnf))
      refine CalP.walk 1000 N.poly_cut rfl rfl ?_
      (repeat' (refine AKM.x ?_;conv=>whnf))
      refine AKM.loop1 (fun n=>n) (fun (n:Nat)=>n≤r.length∧cutN r r.length=cutN r n) (fun n=>[(3,.int .i64 n)]) (fun _=>[(42,42,.rw 3 (r.map eQ))]) [] [] r.length (by (conv=>whnf);exact ⟨rfl,rfl,rfl⟩) ⟨Nat.le_refl _,rfl⟩ ?_
      intro n ⟨p1,p2⟩ ih
      have done : ∀ {n:Nat},cutN r r.length=n→trimQ r=r.take n:=fun h=>by rw[trimQ,h]
      by_cases hz:n=0∨(∃ m x,n=m+1∧r[m]? = some x∧x≠0)
      ·have hcut:cutN r r.length=n:=by
        rw[p2]
        rcases hz with rfl|⟨m,x,rfl,h1,h2⟩
        ·rfl
        ·rw[cutN,if_neg]
         rw[List.getD_eq_getElem?_getD,h1];exact h2
       have htq:=done hcut
       have htl:(r.take n).length=n:=by rw[List.length_take];omega
       clear ih hcut p2 done
       rcases hz with h0|⟨m,x,hnm,h1,h2⟩
       case' inl=>(repeat' (first|(refine CmpP.go (fun hc => ?_) (fun hc => ?_)<;>first|(exfalso;omega)|(conv=>whnf))|(refine AKM.x ?_;conv=>whnf)))
       case' inr =>
        have h1':r[((n:Int)-1).toNat]? = some x:=by rw[show ((n:Int)-1).toNat=m by omega];exact h1
        have hS':=ev_signQ N.toRatGLib (hPs.at h1) (by omega)
        have hs:=sgn_num0 (x:=x)
        generalize sgn x.num=s at *
        have hS : ∀ v,r[((n:Int)-1).toNat]? = some v→Ev L 97 [.agg (eQ v)] (.int .i64 s):=fun v h=>by
         obtain rfl:=Option.some.inj (h1'.symm.trans h)
         exact hS'
        have hs0:s≠0:=fun h=>h2 (hs.1 h)
        (repeat' (first|(refine CmpP.go (fun hc => ?_) (fun hc => ?_)<;>first|(exfalso;omega)|(conv=>whnf))|(refine Req.go ?_ ?_;omega;conv=>whnf)|(refine OpP.sub ?_ ?_;omega;conv=>whnf)|(refine LdR.int ?_ (fun _=>rfl) (fun v hv => ?_);omega;conv=>whnf)|(refine AKM.x ?_;conv=>whnf)|(refine CallP.go (hS _ hv) ?_;conv=>whnf)))
       all_goals
        refine Bds.up n (by omega) (by omega) ?_
        (conv=>whnf)
        skip
        refine ⟨rfl,_,rfl,?_⟩
        (conv=>whnf)
        skip
        refine MkR.go (enc:=eO) none n rfl rfl (by omega) ?_
        (conv=>whnf)
        skip
        refine AKM.loop1 (fun i=>n-i) (fun (i:Nat)=>i≤n) (fun i=>[(11,.int .i64 i)]) (fun i=>[(1170008,170008,.rw 3 ((fillO (r.take i) n).map eO)),(42,42,.rw 3 (r.map eQ))]) [] [] 0 (by first|exact (by (conv=>whnf);exact ⟨rfl,rfl,rfl⟩)|(rw[List.take_zero,←fillO_nil];exact (by (conv=>whnf);exact ⟨rfl,rfl,rfl⟩))) (by omega) ?_
        intro i g1 ih
        by_cases hi:i<n
        ·all_goals try (exfalso;omega)
         all_goals
          obtain ⟨y,hy⟩ : ∃ y,r[i]? = some y:=⟨_,List.getElem?_eq_getElem (by omega)⟩
          have hy':r[(i:Int).toNat]? = some y:=hy
          have hti:(r.take i).length=i:=by rw[List.length_take];omega
          have hl:=fillO_len (l:=r.take i) (m:=n) (by omega)
          have hst:=fillO_set (l:=r.take i) (m:=n) (x:=y) (by omega)
          rw[hti,←take_snocQ hy]at hst
          have hT':=ev_trimQ N.toRatGLib (hPs.at hy) (by omega)
          have hT : ∀ v,r[(i:Int).toNat]? = some v→Ev L 95 [.agg (eQ v)] (.agg (eQ y)):=fun v h=>by
           obtain rfl:=Option.some.inj (hy'.symm.trans h)
           exact hT'
          (repeat' (first|(refine CmpP.go (fun hc => ?_) (fun hc => ?_)<;>first|(exfalso;omega)|(conv=>whnf))|(refine Req.go ?_ ?_;omega;conv=>whnf)|(refine LdR.nat ?_ (fun _=>rfl) (fun v hv => ?_);omega;conv=>whnf)|(refine AKM.x ?_;conv=>whnf)|(refine CallP.go (hT _ hv) ?_;conv=>whnf)))
          refine StR.nat (enc:=eO) (some y) rfl (fun e=>by cases e<;>rfl) (by omega) ?_
          (conv=>whnf)
          (repeat' (refine OpP.add ?_ ?_;omega;conv=>whnf))
          rw[hst]
          exact AKM.back [] (by (conv=>whnf);exact ⟨rfl,rfl,rfl⟩) (ih (i+1) (by omega) (by omega))
        ·obtain rfl:i=n:=by omega
         clear ih
         rw[fillO_full htl,←htq]at *
         rw[←htq]at htl
         (repeat' (first|(refine CmpP.go (fun hc => ?_) (fun hc => ?_)<;>first|(exfalso;omega)|(conv=>whnf))|(refine AKM.x ?_;conv=>whnf)))
         refine ⟨rfl,_,rfl,?_⟩
         (conv=>whnf)
         skip
         (refine SnR.all (enc:=eQ) (fun _=>rfl) rfl htlB.symm ?_;(conv=>whnf);refine SnR.all (enc:=eQ) (fun _=>rfl) rfl htl.symm ?_;(conv=>whnf);exact FinP.go rfl hcl)
      ·obtain ⟨m,rfl⟩ : ∃ m,n=m+1:=⟨n-1,by omega⟩
       obtain ⟨x,hx⟩ : ∃ x,r[m]? = some x:=⟨_,List.getElem?_eq_getElem (by omega)⟩
       have hx0:x=0:=by
        rcases Classical.em (x=0) with h|h
        ·exact h
        ·exact (hz (Or.inr ⟨m,x,rfl,hx,h⟩)).elim
       have hx':r[((m+1:Nat)-1:Int).toNat]? = some x:=by rw[show ((m+1:Nat)-1:Int).toNat=m by omega];exact hx
       have hS':=ev_signQ N.toRatGLib (hPs.at hx) (by omega)
       have hs:=sgn_num0 (x:=x)
       generalize sgn x.num=s at *
       have hS : ∀ v,r[((m+1:Nat)-1:Int).toNat]? = some v→Ev L 97 [.agg (eQ v)] (.int .i64 s):=fun v h=>by
        obtain rfl:=Option.some.inj (hx'.symm.trans h)
        exact hS'
       have hs0:=hs.2 hx0
       (repeat' (first|(refine CmpP.go (fun hc => ?_) (fun hc => ?_)<;>first|(exfalso;omega)|(conv=>whnf))|(refine Req.go ?_ ?_;omega;conv=>whnf)|(refine OpP.sub ?_ ?_;omega;conv=>whnf)|(refine LdR.int ?_ (fun _=>rfl) (fun v hv => ?_);omega;conv=>whnf)|(refine AKM.x ?_;conv=>whnf)|(refine CallP.go (hS _ hv) ?_;conv=>whnf)))
       rw[show ((m+1:Nat):Int)-1=(m:Int) by omega]
       exact AKM.back [] (by (conv=>whnf);exact ⟨rfl,rfl,rfl⟩) (ih m (by omega) ⟨by omega,by rw[p2,cutN,if_pos (by rw[List.getD_eq_getElem?_getD,hx];exact hx0)]⟩)
   ·obtain ⟨m,rfl⟩ : ∃ m,n=m+1:=⟨n-1,by omega⟩
    obtain ⟨x,hx⟩ : ∃ x,l[m]? = some x:=⟨_,List.getElem?_eq_getElem (by omega)⟩
    have hx0:x=0:=by
     rcases Classical.em (x=0) with h|h
     ·exact h
     ·exact (hz (Or.inr ⟨m,x,rfl,hx,h⟩)).elim
    have hx':l[((m+1:Nat)-1:Int).toNat]? = some x:=by rw[show ((m+1:Nat)-1:Int).toNat=m by omega];exact hx
    have hS':=ev_signQ N.toRatGLib (hQs.at hx) (by omega)
    have hs:=sgn_num0 (x:=x)
    generalize sgn x.num=s at *
    have hS : ∀ v,l[((m+1:Nat)-1:Int).toNat]? = some v→Ev L 97 [.agg (eQ v)] (.int .i64 s):=fun v h=>by
     obtain rfl:=Option.some.inj (hx'.symm.trans h)
     exact hS'
    have hs0:=hs.2 hx0
    (repeat' (first|(refine CmpP.go (fun hc => ?_) (fun hc => ?_)<;>first|(exfalso;omega)|(conv=>whnf))|(refine Req.go ?_ ?_;omega;conv=>whnf)|(refine OpP.sub ?_ ?_;omega;conv=>whnf)|(refine LdR.int ?_ (fun _=>rfl) (fun v hv => ?_);omega;conv=>whnf)|(refine AKM.x ?_;conv=>whnf)|(refine CallP.go (hS _ hv) ?_;conv=>whnf)))
    rw[show ((m+1:Nat):Int)-1=(m:Int) by omega]
    exact AKM.back [] (by (conv=>whnf);exact ⟨rfl,rfl,rfl⟩) (ih m (by omega) ⟨by omega,by rw[p2,cutN,if_pos (by rw[List.getD_eq_getElem?_getD,hx];exact hx0)]⟩)
end Go.Eng

namespace Go.Eng
open F
attribute [local irreducible] AKM CmpP Req OpP UnP ConvP RdP LdR StR MkR LenP AppR AppN CpyR RowP SnR Bds SlS CallP CalP FinP pw LdM GetM SetM PutM MkM AppM SnM FlP CallR
set_option maxHeartbeats 8000000
variable {L:Lib} {b a:List Int} {d c:Wd}
theorem rowD_one (x fr:Int):rowD [x] 1 fr=[(fr,x)]:=by simp [rowD]
end Go.Eng

namespace Go.Eng
open F
attribute [local irreducible] AKM CmpP Req OpP UnP ConvP RdP LdR StR MkR LenP AppR AppN CpyR RowP SnR Bds SlS CallP CalP FinP pw LdM GetM SetM PutM MkM AppM SnM FlP CallR
set_option maxHeartbeats 16000000
variable {L:Lib} {b a:List Int} {d c:Wd}
def tK (b a:List Int) (c:Wd) (mx k:Nat):List (Int × Int):=(if k<b.length then [(0,b.getD k 0)] else [])++(if 1≤k∧k≤a.length then [((1:Int)+mx,-a.getD (k-1) 0)] else [])++(if k<mx then [((k:Int)+1,pw c.f)] else [])
theorem rowD_neg (x fr:Int):rowD [x] (-1) fr=[(fr,-x)]:=by simp [rowD]
theorem take_drop_one {l:List Int} {k:Nat} (h:k<l.length):(l.take (k+1)).drop k=[l.getD k 0]:=by
 have hg:l[k]? = some l[k]:=List.getElem?_eq_getElem h
 rw[List.take_add_one,hg,Option.toList_some,List.drop_append_of_le_length (by rw[List.length_take];omega),List.drop_of_length_le (by rw[List.length_take];omega),List.nil_append,List.getD_eq_getElem?_getD,hg]
 rfl
theorem trS_eq (b a:List Int) (c:Wd) (mx k:Nat):trS b a c mx k=tK b a c mx k:=by
 unfold trS tK
 congr 1
 ·congr 1
  ·by_cases h:k<b.length
   ·rw[if_pos h,if_pos h,take_drop_one h,rowD_one]
   ·rw[if_neg h,if_neg h]
  ·by_cases h:1≤k∧k≤a.length
   ·rw[if_pos h,if_pos h]
    obtain ⟨j,rfl⟩ : ∃ j,k=j+1:=⟨k-1,by omega⟩
    rw[Nat.add_sub_cancel,take_drop_one (by omega),rowD_neg,Int.add_comm 1 (mx:Int)]
   ·rw[if_neg h,if_neg h]
 ·by_cases h:k<mx
  ·rw[if_pos h,if_pos h,rowD_one]
  ·rw[if_neg h,if_neg h]
end Go.Eng

namespace Go.Eng
open F
attribute [local irreducible] AKM CmpP Req OpP UnP ConvP RdP LdR StR MkR LenP AppR AppN CpyR RowP SnR Bds SlS CallP CalP FinP pw LdM GetM SetM PutM MkM AppM SnM FlP CallR
set_option maxHeartbeats 4000000
variable {L:Lib}
end Go.Eng



namespace Go.Eng
open F
attribute [local irreducible] AKM CmpP Req OpP UnP ConvP RdP LdR StR MkR LenP AppR AppN CpyR RowP SnR Bds SlS CallP CalP FinP pw LdM GetM SetM PutM MkM AppM SnM FlP CallR
set_option maxHeartbeats 1000000
variable {L:Lib} (n:Nt)
end Go.Eng

namespace Go.Eng
open F
attribute [local irreducible] AKM CmpP Req OpP UnP ConvP RdP LdR StR MkR LenP AppR AppN CpyR RowP SnR Bds SlS CallP CalP FinP pw LdM GetM SetM PutM MkM AppM SnM FlP CallR
set_option maxHeartbeats 4000000
variable {L:Lib}
section
variable (n:Nt)
end
end Go.Eng

namespace Go.Eng
def dot:List Int→List Int→Int
 | u::us,v::vs=>u*v+dot us vs
 | _,_=>0
def win (n:Nat) (l:List Int):List Int:=(l++List.replicate n 0).take n
theorem FT_le {w:Wd} {v:Int} (h:FT w v) : -8388608≤v∧v≤8388608:=by
 obtain ⟨hw,e1,e2⟩:=h
 obtain ⟨h1,h2,h3,h4⟩:=low_high hw
 omega
theorem mem_rowD {l:List Int} {sg fr:Int} {t:Int × Int} (h:t∈rowD l sg fr) : ∃ i:Nat,∃ v∈l,i<l.length∧t=(fr+i,sg*v):=by
 simp only[rowD,List.mem_map,List.mem_range]at h
 obtain ⟨i,hi,rfl⟩:=h
 exact ⟨i,l[i],List.getElem_mem hi,hi,by simp [List.getD_eq_getElem?_getD,List.getElem?_eq_getElem hi]⟩
theorem mem_delayS {n:Nat} {a b k:Int} (h:k∈delayS n a b):k=b ∨ ∃ i:Nat,1≤i∧i<n∧k=a+i-1:=by
 simp only[delayS,List.mem_map,List.mem_range]at h
 obtain ⟨i,hi,rfl⟩:=h
 by_cases h0:i=0
 ·exact Or.inl (by rw[if_pos h0])
 ·exact Or.inr ⟨i,by omega,hi,by rw[if_neg h0]⟩
variable {b a:List Int} {d c:Wd}
theorem form_net (hd:WV d) (hc:WV c) (l1:1≤b.length∧b.length≤49) (l2:a.length≤8) (hb : ∀ v∈b,FT c v) (ha : ∀ v∈a,FT c v∧FT c (-v)):netB (formOneS b a d c)=true:=by
 rw[netB_iff]
 refine ⟨hd,hc,⟨by simp only[formOneS];omega,by simp only[formOneS];omega,by simp [formOneS],by simp [formOneS,delayS]⟩,?_,?_,by simp only[formOneS];omega,by simp only[formOneS,List.length_cons,List.length_nil];omega⟩
 ·simp only[formOneS,nodesB,Bool.and_true,Bool.and_eq_true,decide_eq_true_eq,List.all_eq_true]
  refine ⟨by simp [rowD_len];omega,fun t ht => ?_⟩
  simp only[termB,decide_eq_true_eq]
  rcases List.mem_append.1 ht with h|h
  ·obtain ⟨i,v,hv,hi,rfl⟩:=mem_rowD h
   exact ⟨by simp only;omega,by simp only;omega,Or.inr (by simpa using hb v hv)⟩
  ·obtain ⟨i,v,hv,hi,rfl⟩:=mem_rowD h
   exact ⟨by simp only;omega,by simp only;omega,Or.inr (by simpa using (ha v hv).2)⟩
 ·simp only[formOneS,nextB,List.all_eq_true,decide_eq_true_eq,List.length_cons,List.length_nil]
  intro k hk
  rcases List.mem_append.1 hk with h|h
  all_goals (rcases mem_delayS h with rfl|⟨i,h1,h2,rfl⟩<;>refine decide_eq_true ?_<;>omega)
end Go.Eng

namespace Go.Eng
open Go.ChangeShapes Go.WideShapes Go.ChangeAt Go.RowKit
inductive Ty where
 | int (k:IntKind)
 | bool
 | sl (e:Ty)
 | nil
 | cons (a r:Ty)
def Ty.cells:Ty→Nat
 | .int _=>1 | .bool=>1 | .sl _=>1
 | .nil=>0
 | .cons a r=>a.cells+r.cells
def HasL:Ty→List AV→Prop
 | .int k,cs => ∃ n,cs=[.int k n]∧(Lit.int k n).wf=true
 | .bool,cs => ∃ b,cs=[.bool b]
 | .sl e,cs => ∃ es,cs=[.sl true es]∧es.length≤maxLen ∧ ∀ x∈es,HasL e x
 | .nil,cs=>cs=[]
 | .cons a r,cs => ∃ x y,cs=x++y∧HasL a x∧HasL r y
theorem HasL.len : ∀ {ty:Ty} {cs:List AV},HasL ty cs→cs.length=ty.cells
 | .int _,cs,h=>by obtain ⟨n,rfl,_⟩:=h;rfl
 | .bool,cs,h=>by obtain ⟨n,rfl⟩:=h;rfl
 | .sl _,cs,h=>by obtain ⟨n,rfl,_⟩:=h;rfl
 | .nil,cs,h=>by rw[show cs=[] from h];rfl
 | .cons a r,cs,h=>by obtain ⟨x,y,rfl,h1,h2⟩:=h;simp [Ty.cells,HasL.len h1,HasL.len h2]
def okTy (P:Program):Nat→TypeId→Ty→Bool
 | 0,_,_=>false
 | n+1,t,ty=>match P.underlying t,ty with
  | some (.int k),.int k'=>decide (k=k')
  | some .bool,.bool=>true
  | some (.slice e),.sl ty'=>okTy P n e ty'&&(P.cellsOf e == ty'.cells&&decide (0<ty'.cells))
  | some (.struct fs),ty=>go (okTy P n) fs.toList 0 ty&&P.cellsOf t == ty.cells
  | _,_=>false
where
 go (ok:TypeId→Ty→Bool):List Field→Nat→Ty→Bool
  | [],_,.nil=>true
  | f::fs,off,.cons a r=>(f.offset == off&&(ok f.type a&&P.cellsOf f.type == a.cells))&&go ok fs (off+a.cells) r
  | _,_,_=>false
section
variable {H:Type} {enc:TypeId × Value→H} {P:Program} {w:World} {base:Nat} {spare:Nat→Bool} {held:Bool} {R:Bool→Nat→Prop}
def RdL (w:World) (R:Bool→Nat→Prop) (as:List AV) (cs:List Value):Prop:=as.length=cs.length ∧ ∀ (j:Nat) (a:AV) (c:Value),as[j]? = some a→cs[j]? = some c→Rd w R a c
theorem RdL.one {a:AV} {c:Value} (h:Rd w R a c):RdL w R [a] [c]:=by
 refine ⟨rfl,fun j a' c' h1 h2 => ?_⟩
 cases j with
 | zero=>simp at h1 h2;subst h1 h2;exact h
 | succ j=>simp at h1
theorem RdL.append {as bs:List AV} {cs ds:List Value} (h1:RdL w R as cs) (h2:RdL w R bs ds):RdL w R (as++bs) (cs++ds):=by
 refine ⟨by simp [h1.1,h2.1],fun j a c ha hc => ?_⟩
 by_cases hj:j<as.length
 ·rw[List.getElem?_append_left hj]at ha
  rw[List.getElem?_append_left (by rw[←h1.1];exact hj)]at hc
  exact h1.2 j a c ha hc
 ·rw[List.getElem?_append_right (by omega)]at ha
  rw[List.getElem?_append_right (by rw[←h1.1];omega),←h1.1]at hc
  exact h2.2 _ a c ha hc
theorem add_off (a:Addr) (i:Nat) (h:a.spot=none):a.add i=⟨a.block,a.off+i,none⟩:=by
 obtain ⟨b,o,s⟩:=a
 simp only at h
 subst h
 exact add_none b o i
theorem open_go (hR : ∀ b,b<w.heap.size→R true b) (m:Nat) (ih : ∀ (ty:Ty) (t:TypeId) (cs:List Value) (fuel:Nat) (x:DataW H × List MemPlace),okTy P m t ty=true→DataW.trod enc P w base spare held fuel t cs=some x → ∃ as,HasL ty as∧RdL w R as cs)
  (n:Nat) (cs:List Value) : ∀ (fs:List Field) (off:Nat) (ty:Ty),okTy.go P (okTy P m) fs off ty=true→(∀ f∈fs,∃ y,DataW.trod enc P w base spare held n f.type ((cs.drop f.offset).take (P.cellsOf f.type))=some y)→off+ty.cells=cs.length → ∃ as,HasL ty as∧RdL w R as (cs.drop off)
 | [],off,ty,hok,_,hl=>by
  cases ty<;>simp only[okTy.go,Bool.false_eq_true]at hok
  simp only[Ty.cells]at hl
  exact ⟨[],rfl,by rw[List.drop_of_length_le (by omega)];exact ⟨rfl,fun j a c h=>by simp at h⟩⟩
 | f::fs,off,ty,hok,hf,hl=>by
  cases ty<;>simp only[okTy.go,Bool.false_eq_true,Bool.and_eq_true,beq_iff_eq]at hok
  rename_i a r
  obtain ⟨⟨h1,h2,h3⟩,h4⟩:=hok
  simp only[Ty.cells]at hl
  obtain ⟨y,hy⟩:=hf f List.mem_cons_self
  rw[h1,h3]at hy
  obtain ⟨as1,g1,g2⟩:=ih a f.type _ n y h2 hy
  obtain ⟨as2,g3,g4⟩:=open_go hR m ih n cs fs (off+a.cells) r h4 (fun f' h'=>hf f' (List.mem_cons_of_mem _ h')) (by omega)
  refine ⟨as1++as2,⟨as1,as2,rfl,g1,g3⟩,?_⟩
  have:=g2.append g4
  rwa [show (cs.drop off).take a.cells++cs.drop (off+a.cells)=cs.drop off by rw[←List.drop_drop,List.take_append_drop]]at this
theorem open_any (hR : ∀ b,b<w.heap.size→R true b) : ∀ (m:Nat) (ty:Ty) (t:TypeId) (cs:List Value) (fuel:Nat) (x:DataW H × List MemPlace),okTy P m t ty=true→DataW.trod enc P w base spare held fuel t cs=some x → ∃ as,HasL ty as∧RdL w R as cs
 | 0,_,_,_,_,_,h,_=>by simp [okTy]at h
 | m+1,ty,t,cs,fuel,x,hok,h=>by
  have ih:=open_any hR m
  simp only[okTy]at hok
  split at hok
  ·rename_i k k' hu
   obtain rfl:k=k':=by simpa using hok
   obtain ⟨n,rfl,_,hw⟩:=DataW.trod_int hu h
   exact ⟨[.int k n],⟨n,rfl,hw⟩,RdL.one (.int k n)⟩
  ·rename_i hu
   cases fuel with
   | zero=>simp [DataW.trod]at h
   | succ fuel =>
    unfold DataW.trod at h
    rw[hu]at h
    split at h<;>simp_all
    exact ⟨_,⟨_,rfl⟩,RdL.one (.bool _)⟩
  ·rename_i e ty' hu
   simp only[Bool.and_eq_true,beq_iff_eq,decide_eq_true_eq]at hok
   obtain ⟨h1,h2,h3⟩:=hok
   rcases DataW.trod_slice hu h with ⟨rfl,_⟩|⟨a,len,cap,elems,rest,n,_,rfl,_,hb,hl,hm,hlen,hel,_,_⟩
   ·exact ⟨[.sl true []],⟨[],rfl,by simp,by simp⟩,RdL.one (.sl0 true none 0)⟩
   ·have each : ∀ i,i<len → ∃ as cs',HasL ty' as∧RdL w R as cs'∧cs'.length=ty'.cells ∧ ∀ j,j<ty'.cells→w.cell? ((a.add (i*ty'.cells)).add j)=cs'[j]? := by
     intro i hi
     have:=hel i hi
     rw[h2,List.getElem?_eq_getElem (by omega),Option.bind_eq_some_iff]at this
     obtain ⟨cs',hc,ht⟩:=this
     obtain ⟨as,g1,g2⟩:=ih ty' e cs' n _ h1 ht
     obtain ⟨_,q1,q2⟩:=World.cells?_some hc
     exact ⟨as,cs',g1,g2,q1,q2⟩
    by_cases h0:len=0
    ·subst h0
     exact ⟨[.sl true []],⟨[],rfl,by simp,by simp⟩,RdL.one (.sl0 true (some a) cap)⟩
    ·have hspot:a.spot=none:=by
      obtain ⟨as,cs',_,_,q1,q2⟩:=each 0 (by omega)
      have:=q2 0 h3
      rw[List.getElem?_eq_getElem (by omega)]at this
      simpa [Addr.add] using World.cell?_spot this
     have hblk:a.block<w.heap.size:=by
      obtain ⟨as,cs',_,_,q1,q2⟩:=each 0 (by omega)
      have:=q2 0 h3
      rw[List.getElem?_eq_getElem (by omega)]at this
      simpa [Addr.add] using cell_lt this
     have pick : ∃ f:Nat→List AV × List Value,∀ i,i<len→HasL ty' (f i).1∧RdL w R (f i).1 (f i).2∧(f i).2.length=ty'.cells ∧ ∀ j,j<ty'.cells→w.cell? ((a.add (i*ty'.cells)).add j)=(f i).2[j]? := by
      refine ⟨fun i=>if hi:i<len then (Classical.choose (each i hi),Classical.choose (Classical.choose_spec (each i hi))) else ([],[]),fun i hi => ?_⟩
      simp only[hi,dif_pos]
      exact Classical.choose_spec (Classical.choose_spec (each i hi))
     obtain ⟨f,hf⟩:=pick
     have hget : ∀ i e',((List.range len).map fun i=>(f i).1)[i]? = some e'→i<len∧e'=(f i).1:=by
      intro i e' he
      rw[List.getElem?_map]at he
      by_cases hi:i<len
      ·rw[List.getElem?_range hi]at he
       simp at he
       exact ⟨hi,he.symm⟩
      ·rw[List.getElem?_eq_none (by simpa using hi)]at he
       cases he
     refine ⟨[.sl true ((List.range len).map fun i=>(f i).1)],⟨_,rfl,by simp;omega,fun x hx => ?_⟩,RdL.one ?_⟩
     ·obtain ⟨i,hi,rfl⟩:=List.mem_map.1 hx
      exact (hf i (List.mem_range.1 hi)).1
     ·obtain ⟨ab,ao,as⟩:=a
      simp only at hspot
      subst hspot
      have hlen':((List.range len).map fun i=>(f i).1).length=len:=by simp
      have:=Rd.sl (w:=w) (R:=R) true ((List.range len).map fun i=>(f i).1) ab ao ty'.cells cap (fun i j=>((f i).2[j]?).getD default) (by intro e;have:=congrArg List.length e;simp at this;omega) h3 (hR ab hblk) (by rw[hlen'];exact hl)
       (fun e' he=>by
        obtain ⟨i,hi,rfl⟩:=List.mem_map.1 he
        exact (hf i (List.mem_range.1 hi)).1.len)
       (fun i e' he j c hc=>by
        obtain ⟨hi,rfl⟩:=hget i e' he
        obtain ⟨g1,g2,g3,g4⟩:=hf i hi
        have hj:j<ty'.cells:=by
         have:=(List.getElem?_eq_some_iff.1 hc).1
         rwa [g1.len]at this
        have h5:=g4 j hj
        rw[add_off ⟨ab,ao,none⟩ (i*ty'.cells) rfl,add_off _ _ rfl]at h5
        simp only at h5
        rw[show ao+(i*ty'.cells+j)=ao+i*ty'.cells+j by omega,h5,List.getElem?_eq_getElem (by omega)]
        rfl)
       (fun i e' he j c hc=>by
        obtain ⟨hi,rfl⟩:=hget i e' he
        obtain ⟨g1,g2,g3,g4⟩:=hf i hi
        have hj:j<ty'.cells:=by
         have:=(List.getElem?_eq_some_iff.1 hc).1
         rwa [g1.len]at this
        have h6:(f i).2[j]? = some ((f i).2[j]'(by omega)):=List.getElem?_eq_getElem _
        rw[h6]
        exact g2.2 j c _ hc h6)
      rwa [hlen']at this
  ·rename_i fs hu
   simp only[Bool.and_eq_true,beq_iff_eq]at hok
   obtain ⟨h1,h2⟩:=hok
   obtain ⟨xs,n,_,_,hl,hlen,hf⟩:=DataW.trod_struct hu h
   have:=open_go hR m ih n cs fs.toList 0 _ h1 (fun f hf'=>by
    obtain ⟨i,hi,rfl⟩:=List.getElem_of_mem hf'
    have h5:=hf i fs.toList[i] (by simp)
    rw[h5,List.getElem?_eq_getElem (by simpa [hlen] using hi)]
    exact ⟨_,rfl⟩) (by rw[hl,h2];omega)
   simpa using this
  ·exact absurd hok (by simp)
theorem open_cell {S:Nat→Prop} {ty:Ty} {t:TypeId} {v:Value} {d:DataW H} {ps:List MemPlace} {m:Nat} (hok:okTy P m t ty=true) (hv:v.cells.toList=[v]) (h:DataW.Trod enc P w base spare held t v d ps) :
  ∃ a,HasL ty [a]∧CA w.heap.size S ⟨fun _ _=>none,Own.emp,w⟩ a v:=by
 obtain ⟨fuel,hf⟩:=h
 rw[hv]at hf
 obtain ⟨as,h1,h2⟩:=open_any (R:=safe w.heap.size S ⟨fun _ _=>none,Own.emp,w⟩) (fun b hb=>Or.inr (Or.inr ⟨rfl,hb⟩)) m ty t [v] fuel _ hok hf
 obtain ⟨a,rfl⟩ : ∃ a,as=[a]:=by
  have:=h2.1
  match as,this with
  | [a],_=>exact ⟨a,rfl⟩
 exact ⟨a,h1,.one (.rd (h2.2 0 a v rfl rfl))⟩
end
theorem args_nil {B:Nat} {S:Nat→Prop} {m:M} : ∀ (j:Nat) (c:AV) (v:Value),([]:List AV)[j]? = some c→([]:List Value)[j]? = some v→CA B S m c v:=fun j c v h=>by simp at h
theorem args_cons {B:Nat} {S:Nat→Prop} {m:M} {a:AV} {u:Value} {as:List AV} {us:List Value} (h:CA B S m a u) (hr : ∀ (j:Nat) (c:AV) (v:Value),as[j]? = some c→us[j]? = some v→CA B S m c v) :
  ∀ (j:Nat) (c:AV) (v:Value),(a::as)[j]? = some c→(u::us)[j]? = some v→CA B S m c v
 | 0,c,v,h1,h2=>by simp at h1 h2;subst h1 h2;exact h
 | j+1,c,v,h1,h2=>hr j c v (by simpa using h1) (by simpa using h2)
theorem law_calls {P:Program} {num:Nat→Nat} {L:Lib} (hP:ProgOK P num L) {f:Nat} {vs:List AV} (h:Ev L f vs (.bool true)) {S:Nat→Prop} {w:World} {us:List Value} (hl:vs.length=us.length)
  (ha : ∀ (j:Nat) (c:AV) (v:Value),vs[j]? = some c→us[j]? = some v→CA w.heap.size S ⟨fun _ _=>none,Own.emp,w⟩ c v) :
  Calls P (num f) us.toArray w fun e w'=>e = .returned (.bool true)∧Below w.heap.size w w':=by
 obtain ⟨n,hn⟩:=h
 refine ((calls_ok hP n).pure f vs _ hn S w us hl ha).mono ?_
 rintro e w' ⟨u,rfl,hb,hcv,_⟩
 refine ⟨?_,hb⟩
 cases hcv with
 | ca hca=>cases hca with
  | one hcc=>cases hcc with
   | rd hrd=>cases hrd;rfl
end Go.Eng

namespace Go.Eng
abbrev tI:Ty := .int .i64
end Go.Eng

namespace Go.Eng
end Go.Eng



namespace Go.Eng
open F
attribute [local irreducible] AKM CmpP Req OpP UnP ConvP RdP LdR StR MkR LenP AppR AppN CpyR RowP SnR Bds SlS CallP CalP FinP pw LdM GetM SetM PutM MkM AppM SnM FlP CallR
set_option maxHeartbeats 1000000
variable {L:Lib}
theorem toB_range {b:Int} (hb:0≤b) (v:Int) : -b≤toB b v∧toB b v≤b:=by
 have:=with_range (v:=IntKind.i64.wrap (v+b)) (m:=2*b+1) (by omega)
 unfold toB
 omega
theorem below_FT {c:Wd} (hc:WV c) (l:List Int) (n:Nat) : ∀ v∈belowS (pw (c.b-1)-1) l n,FT c v∧FT c (-v):=by
 intro v hv
 obtain ⟨h1,h2,h3,h4⟩:=low_high hc
 simp only[belowS,List.mem_map]at hv
 obtain ⟨i,_,rfl⟩:=hv
 have:=toB_range (b:=pw (c.b-1)-1) (by omega) (atS l i)
 exact ⟨⟨hc,by omega,by omega⟩,⟨hc,by omega,by omega⟩⟩
theorem below_len (b:Int) (l:List Int) (n:Nat):(belowS b l n).length=n:=by simp [belowS]
end Go.Eng

namespace Go.Eng
variable {d c:Wd} {p:List Int}
end Go.Eng

namespace Go.Eng
open F
attribute [local irreducible] AKM CmpP Req OpP UnP ConvP RdP LdR StR MkR LenP AppR AppN CpyR RowP SnR Bds SlS CallP CalP FinP pw LdM GetM SetM PutM MkM AppM SnM FlP CallR
set_option maxHeartbeats 1000000
variable {L:Lib}
end Go.Eng

namespace Go.Eng
variable {d c:Wd} {p:List Int}
theorem range_split (n:Nat):List.range n=List.range' 0 n:=List.range_eq_range'
end Go.Eng

namespace Go.Eng
open F
attribute [local irreducible] AKM CmpP Req OpP UnP ConvP RdP LdR StR MkR LenP AppR AppN CpyR RowP SnR Bds SlS CallP CalP FinP pw LdM GetM SetM PutM MkM AppM SnM FlP CallR
set_option maxHeartbeats 1000000
variable {L:Lib} {d c:Wd} {p:List Int}
theorem termB_unit {s:Int} {k:Nat} {fr:Int} (h:0≤fr∧fr≤s+k) : ∀ t∈rowD [pw c.f] 1 fr,termB c s k t=true:=by
 intro t ht
 obtain ⟨i,v,hv,hi,rfl⟩:=mem_rowD ht
 simp only[List.mem_singleton]at hv
 simp only[List.length_cons,List.length_nil]at hi
 subst hv
 exact decide_eq_true ⟨by simp only;omega,by simp only;omega,Or.inl (by simp)⟩
theorem termB_row {s:Int} {k:Nat} {fr:Int} {l:List Int} (hl : ∀ v∈l,FT c v) (h:0≤fr∧fr+l.length≤s+k+1) : ∀ t∈rowD l 1 fr,termB c s k t=true:=by
 intro t ht
 obtain ⟨i,v,hv,hi,rfl⟩:=mem_rowD ht
 exact decide_eq_true ⟨by simp only;omega,by simp only;omega,Or.inr (by simpa using hl v hv)⟩
theorem nodes_all {s:Int} {f:Nat→Nd} : ∀ (m k:Nat),(∀ i,k≤i→i<k+m→(f i).ts.length≤64 ∧ ∀ t∈(f i).ts,termB c s i t=true)→nodesB c s k ((List.range' k m).map f)=true
 | 0,_,_=>rfl
 | m+1,k,h=>by
  rw[List.range'_succ,List.map_cons,nodesB,nodes_all m (k+1) fun i h1 h2=>h i (by omega) (by omega)]
  have:=h k (by omega) (by omega)
  simp only[Bool.and_true,Bool.and_eq_true,decide_eq_true_eq,List.all_eq_true]
  exact this
end Go.Eng

namespace Go.Eng
open F
attribute [local irreducible] AKM CmpP Req OpP UnP ConvP RdP LdR StR MkR LenP AppR AppN CpyR RowP SnR Bds SlS CallP CalP FinP pw LdM GetM SetM PutM MkM AppM SnM FlP CallR
set_option maxHeartbeats 8000000
variable {L:Lib}
section
variable {b a:List Int} {d c:Wd}
theorem termB_neg {s:Int} {k:Nat} {fr:Int} {l:List Int} (hl : ∀ v∈l,FT c (-v)) (h:0≤fr∧fr+l.length≤s+k+1) : ∀ t∈rowD l (-1) fr,termB c s k t=true:=by
 intro t ht
 obtain ⟨i,v,hv,hi,rfl⟩:=mem_rowD ht
 exact decide_eq_true ⟨by simp only;omega,by simp only;omega,Or.inr (by simpa using hl v hv)⟩
theorem two_netU (hd:WV d) (hc:WV c) (l1:1≤b.length∧b.length≤49) (l2:a.length≤8) (hb : ∀ v∈b,FT c v) (ha : ∀ v∈a,FT c v∧FT c (-v)):netB (formTwoS b a d c)=true:=by
 have hm1:b.length-1≤maxN b a:=Nat.le_max_left _ _
 have hm2:a.length≤maxN b a:=Nat.le_max_right _ _
 have hm3:maxN b a≤48:=by unfold maxN;omega
 rw[netB_iff]
 refine ⟨hd,hc,⟨by simp only[formTwoS];omega,by simp only[formTwoS];omega,by simp [formTwoS],by simp [formTwoS,delayS]⟩,?_,?_,by simp only[formTwoS];omega,by simp only[formTwoS,List.length_cons,List.length_nil];omega⟩
 ·simp only[formTwoS,nodesB,Bool.and_true,Bool.and_eq_true,decide_eq_true_eq,List.all_eq_true]
  refine ⟨⟨by simp [rowD_len];omega,fun t ht => ?_⟩,by simp [rowD_len];omega,fun t ht => ?_⟩
  ·rcases List.mem_append.1 ht with h|h
   ·exact termB_unit (by omega) t h
   ·exact termB_neg (fun v hv=>(ha v hv).2) (by omega) t h
  ·rcases List.mem_append.1 ht with h|h
   ·exact termB_row (fun v hv=>hb v (List.mem_of_mem_take hv)) (by simp only[List.length_take];omega) t h
   ·exact termB_row (fun v hv=>hb v (List.mem_of_mem_drop hv)) (by simp only[List.length_drop];omega) t h
 ·simp only[formTwoS,nextB,List.all_eq_true,decide_eq_true_eq,List.length_cons,List.length_nil]
  intro k hk
  rcases mem_delayS hk with rfl|⟨i,h1,h2,rfl⟩<;>(first|omega|(refine decide_eq_true ?_;omega))
theorem tK_mem {mx k:Nat} {t:Int × Int} (h:t∈tK b a c mx k):(k<b.length∧t.1=0∧t.2∈b)∨(1≤k∧k≤a.length∧t.1=1+(mx:Int) ∧ -t.2∈a)∨(k<mx∧t.1=(k:Int)+1∧t.2=pw c.f):=by
 unfold tK at h
 rcases List.mem_append.1 h with h|h
 ·rcases List.mem_append.1 h with h|h
  ·split at h
   ·rename_i hk
    obtain rfl:=List.mem_singleton.1 h
    refine Or.inl ⟨hk,rfl,?_⟩
    show b.getD k 0∈b
    rw[List.getD_eq_getElem?_getD,List.getElem?_eq_getElem hk]
    exact List.getElem_mem hk
   ·cases h
  ·split at h
   ·rename_i hk
    obtain rfl:=List.mem_singleton.1 h
    refine Or.inr (Or.inl ⟨hk.1,hk.2,rfl,?_⟩)
    show - -(a.getD (k-1) 0)∈a
    rw[Int.neg_neg,List.getD_eq_getElem?_getD,List.getElem?_eq_getElem (show k-1<a.length by omega)]
    exact List.getElem_mem _
   ·cases h
 ·split at h
  ·rename_i hk
   obtain rfl:=List.mem_singleton.1 h
   exact Or.inr (Or.inr ⟨hk,rfl,rfl⟩)
  ·cases h
theorem tK_len3 (mx k:Nat):(tK b a c mx k).length≤3:=by
 unfold tK
 split<;>split<;>split<;>simp
theorem tr_netU (hd:WV d) (hc:WV c) (l1:1≤b.length∧b.length≤49) (l2:a.length≤8) (hb : ∀ v∈b,FT c v) (ha : ∀ v∈a,FT c v∧FT c (-v)):netB (transS b a d c)=true:=by
 have hm1:b.length-1≤maxN b a:=Nat.le_max_left _ _
 have hm2:a.length≤maxN b a:=Nat.le_max_right _ _
 have hm3:maxN b a≤48:=by unfold maxN;omega
 rw[netB_iff]
 refine ⟨hd,hc,⟨by simp only[transS];omega,by simp only[transS];omega,by simp [transS,trN];omega,by simp [transS]⟩,?_,?_,by simp only[transS];omega,by simp [transS,trN];omega⟩
 ·simp only[transS,trN]
  rw[range_split]
  refine nodes_all _ _ fun i _ hi => ?_
  simp only[trS_eq]
  refine ⟨by have:=tK_len3 (b:=b) (a:=a) (c:=c) (maxN b a) i;omega,fun t ht => ?_⟩
  refine decide_eq_true ?_
  rcases tK_mem ht with ⟨h1,h2,h3⟩|⟨h1,h2,h3,h4⟩|⟨h1,h2,h3⟩
  ·exact ⟨by omega,by omega,Or.inr (hb _ h3)⟩
  ·exact ⟨by omega,by omega,Or.inr (by simpa using (ha _ h4).2)⟩
  ·exact ⟨by omega,by omega,Or.inl h3⟩
 ·simp only[transS,trN,nextB,List.all_eq_true,decide_eq_true_eq,List.mem_map,List.mem_range,List.length_map,List.length_range]
  rintro k ⟨i,hi,rfl⟩
  omega
theorem pw_small (hc:WV c):(pw c.f).natAbs≤2^24:=by
 unfold WV at hc
 have hpl:=pw_le (n:=c.f) (m:=23) (by omega)
 have hp23:pw 23=8388608:=by unfold pw;rfl
 have:=pw_pos c.f
 show _≤16777216
 omega
theorem row_small {l:List Int} {sg fr:Int} (hs:sg=1∨sg = -1) (hl : ∀ v∈l,FT c v) : ∀ t∈rowD l sg fr,t.2.natAbs≤2^24:=by
 intro t ht
 obtain ⟨i,v,hv,hi,rfl⟩:=mem_rowD ht
 have:=FT_le (hl v hv)
 show (sg*v).natAbs≤16777216
 rcases hs with rfl|rfl<;>omega
theorem unit_small (hc:WV c) {fr:Int} : ∀ t∈rowD [pw c.f] 1 fr,t.2.natAbs≤2^24:=by
 intro t ht
 obtain ⟨i,v,hv,hi,rfl⟩:=mem_rowD ht
 obtain rfl:=List.mem_singleton.1 hv
 show (1*pw c.f).natAbs≤_
 rw[Int.one_mul]
 exact pw_small hc
theorem one_small (l1:b.length≤3) (l2:a.length≤2) (hb : ∀ v∈b,FT c v) (ha : ∀ v∈a,FT c v∧FT c (-v)):SmallN (tsOf (formOneS b a d c)):=by
 constructor
 ·intro ts h
  simp only[tsOf,formOneS,List.map_cons,List.map_nil,List.mem_singleton]at h
  subst h
  simp only[List.length_append,rowD_len];omega
 ·intro ts h
  simp only[tsOf,formOneS,List.map_cons,List.map_nil,List.mem_singleton]at h
  subst h
  intro t ht
  rcases List.mem_append.1 ht with h|h
  ·exact row_small (Or.inl rfl) hb t h
  ·exact row_small (Or.inr rfl) (fun v hv=>(ha v hv).1) t h
theorem two_small (hc:WV c) (l1:b.length≤3) (l2:a.length≤2) (hb : ∀ v∈b,FT c v) (ha : ∀ v∈a,FT c v∧FT c (-v)):SmallN (tsOf (formTwoS b a d c)):=by
 constructor
 ·intro ts h
  simp only[tsOf,formTwoS,List.map_cons,List.map_nil,List.mem_cons,List.not_mem_nil,or_false]at h
  rcases h with rfl|rfl
  all_goals simp only[List.length_append,rowD_len,List.length_take,List.length_drop,List.length_cons,List.length_nil];omega
 ·intro ts h
  simp only[tsOf,formTwoS,List.map_cons,List.map_nil,List.mem_cons,List.not_mem_nil,or_false]at h
  intro t ht
  rcases h with rfl|rfl
  ·rcases List.mem_append.1 ht with h|h
   ·exact unit_small hc t h
   ·exact row_small (Or.inr rfl) (fun v hv=>(ha v hv).1) t h
  ·rcases List.mem_append.1 ht with h|h
   ·exact row_small (Or.inl rfl) (fun v hv=>hb v (List.mem_of_mem_take hv)) t h
   ·exact row_small (Or.inl rfl) (fun v hv=>hb v (List.mem_of_mem_drop hv)) t h
theorem tr_small (hc:WV c) (hb : ∀ v∈b,FT c v) (ha : ∀ v∈a,FT c v∧FT c (-v)):SmallN (tsOf (transS b a d c)):=by
 have key : ∀ ts∈tsOf (transS b a d c),∃ i,ts=tK b a c (maxN b a) i:=by
  intro ts h
  simp only[tsOf,transS,trN,List.map_map,List.mem_map]at h
  obtain ⟨i,_,rfl⟩:=h
  exact ⟨i,trS_eq _ _ _ _ _⟩
 constructor
 ·intro ts h
  obtain ⟨i,rfl⟩:=key ts h
  have:=tK_len3 (b:=b) (a:=a) (c:=c) (maxN b a) i
  omega
 ·intro ts h t ht
  obtain ⟨i,rfl⟩:=key ts h
  rcases tK_mem ht with ⟨h1,h2,h3⟩|⟨h1,h2,h3,h4⟩|⟨h1,h2,h3⟩
  ·have:=FT_le (hb _ h3)
   show _≤16777216
   omega
  ·have:=FT_le (ha _ h4).1
   show _≤16777216
   omega
  ·rw[h3];exact pw_small hc
theorem num_fracs (hc:WV c) (l:List Int):numQ c l=fracs ((pw c.f:Int):Rat) l:=by
 refine List.map_congr_left fun v _ => ?_
 obtain ⟨e,he⟩:=Int.eq_ofNat_of_zero_le (show 0≤pw c.f by have:=pw_pos c.f;omega)
 rw[he,Rat.divInt_ofNat,Rat.mkRat_eq_div];rfl
theorem frac_bt (hc:WV c) (hb9:c.b≤9) {v:Int} (hv:FT c v):Bt 9 ((v:Rat)/((pw c.f:Int):Rat)):=by
 obtain ⟨h1,h2,h3,h4⟩:=low_high hc
 have hc':=hc
 unfold WV at hc'
 have p8:pw 8=256:=by unfold pw;rfl
 have e1:=pw_le (n:=c.f) (m:=8) (by omega)
 have e2:=pw_le (n:=c.b-1) (m:=8) (by omega)
 have e3:=pw_pos c.f
 obtain ⟨_,f1,f2⟩:=hv
 obtain ⟨e,he⟩:=Int.eq_ofNat_of_zero_le (show 0≤pw c.f by omega)
 rw[he]at e1 ⊢
 have:((v:Int):Rat)/((e:Int):Rat)=mkRat v e:=by rw[Rat.mkRat_eq_div];rfl
 rw[this]
 refine Bt.mk ?_ ?_
 ·show _≤512;omega
 ·show _≤512;omega
theorem wrong_no (hd:WV d) (hc:WV c) (l1:1≤b.length∧b.length≤49) (l2:a.length≤8) (hb : ∀ v∈b,FT c v) (ha : ∀ v∈a,FT c v∧FT c (-v)):wrongD b a d c=0:=by
 rw[wrongD,if_pos ⟨hd,hc⟩,if_neg (by omega),if_pos]
 simp only[Bool.and_eq_true,wordsB,List.all_eq_true,decide_eq_true_eq]
 refine ⟨hb,fun v hv=>(ha v hv).1,fun v hv => ?_⟩
 obtain ⟨w,hw,rfl⟩:=List.mem_map.1 hv
 exact (ha w hw).2
end
structure FormIs (n:Nt) (m:Nat) (c:Wd) (P Q:List Int):Prop where
 net:netB n=true
 sm:SmallN (tsOf n)
 nl:n.nodes.length≤4
 ok:(linQ n).Ok m 80
 m4:m≤4
 ta:tfA (linQ n) m=trimQ (1::numQ c Q)
 tb:tfB (linQ n) m=trimQ (numQ c P)
theorem ev_form23 (I:FixedLib L) (W:WorldLib L) (N:LawVLib L) (kd dk ck:Int) (h0:InI kd) (h1:InI dk) (h2:InI ck) (b a:List Int) (q1 q2:Bool) (lb:b.length<9223372036854775808) (la:a.length<9223372036854775808) :
  ∃ (n:Nt) (m:Nat) (c:Wd) (P Q:List Int),FormIs n m c P Q∧WV c∧(∀ v∈P,FT c v)∧(∀ v∈Q,FT c v)∧P.length≤3∧Q.length≤2 ∧
   Ev L 217 [.int .i64 kd,.int .i64 dk,.int .i64 ck,.sl q1 (b.map encInt),.sl q2 (a.map encInt)] (.tup [.agg (encN n),.agg [.sl false ((trimQ (numQ c P)).map eQ),.sl false ((trimQ (1::numQ c Q)).map eQ)],.int .i64 0]):=by
 have D:DirectGLib L:=N.toDirectGLib
 obtain ⟨hdw,hd1,hd2⟩:=data_ok dk
 obtain ⟨hcw,hc1,hc2⟩:=coef_ok ck
 have hk0:=with_range (v:=kd) (m:=3) (by omega)
 have hk1:=with_range (v:=(b.length:Int)) (m:=3) (by omega)
 have hk2:=with_range (v:=(a.length:Int)) (m:=3) (by omega)
 have eb:=fun q=>ev_world_Below W (pw ((coefS ck).b-1)-1) (by have:=low_high hcw;omega) b q (1+withS b.length 3).toNat (by omega)
 have ea:=fun q=>ev_world_Below W (pw ((coefS ck).b-1)-1) (by have:=low_high hcw;omega) a q (withS a.length 3).toNat (by omega)
 rw[Int.toNat_of_nonneg (by omega)]at eb ea
 have w0:=ev_world_Within W kd 3 h0 (by omega)
 have w1:=ev_world_Within W b.length 3 (by unfold InI;omega) (by omega)
 have w2:=ev_world_Within W a.length 3 (by unfold InI;omega) (by omega)
 have wd:=ev_world_Data W dk h1
 have wc:=ev_world_Coef W ck h2
 have lP:(belowS (pw ((coefS ck).b-1)-1) b (1+withS b.length 3).toNat).length=(1+withS b.length 3).toNat:=below_len _ _ _
 have lQ:(belowS (pw ((coefS ck).b-1)-1) a (withS a.length 3).toNat).length=(withS a.length 3).toNat:=below_len _ _ _
 have hP:=below_FT hcw b (1+withS b.length 3).toNat
 have hQ:=below_FT hcw a (withS a.length 3).toNat
 generalize belowS (pw ((coefS ck).b-1)-1) b (1+withS b.length 3).toNat=P at *
 generalize belowS (pw ((coefS ck).b-1)-1) a (withS a.length 3).toNat=Q at *
 generalize coefS ck=c at *
 generalize dataS dk=d at *
 have hb : ∀ v∈P,FT c v:=fun v h=>(hP v h).1
 have hw:=wrong_no hcw hcw (by omega) (by omega) hb hQ
 have hI:=fun q q'=>ev_Ideal I N.toBldGLib q q' (okD_of _ _ _ _ hw) hw
 have hu:((pw c.f:Int):Rat)≠0:=by
  intro e
  have:pw c.f=0:=by exact_mod_cast e
  have:=pw_pos c.f
  omega
 have bP : ∀ v∈P,Bt 9 ((v:Rat)/((pw c.f:Int):Rat)):=fun v hv=>frac_bt hcw hc2 (hb v hv)
 have bQ : ∀ v∈Q,Bt 9 ((v:Rat)/((pw c.f:Int):Rat)):=fun v hv=>frac_bt hcw hc2 (hQ v hv).1
 have sP:Bs 9 (fracs ((pw c.f:Int):Rat) P):=fun x hx=>by
  obtain ⟨v,hv,rfl⟩:=List.mem_map.1 hx
  exact bP v hv
 have sQ:Bs 9 (1::fracs ((pw c.f:Int):Rat) Q):=Bs.cons0 (Bt.one 9) fun x hx=>by
  obtain ⟨v,hv,rfl⟩:=List.mem_map.1 hx
  exact bQ v hv
 have fl : ∀ l:List Int,(fracs ((pw c.f:Int):Rat) l).length=l.length:=fun l=>by simp [fracs]
 have lP1:1≤P.length∧P.length≤3:=by omega
 have lQ1:Q.length≤2:=by omega
 have hcase:withS kd 3=0∨withS kd 3=1∨withS kd 3=2:=by omega
 have hmx:maxN P Q≤2:=by unfold maxN;omega
 have hm1:P.length-1≤maxN P Q:=Nat.le_max_left _ _
 have hm2:Q.length≤maxN P Q:=Nat.le_max_right _ _
 rcases hcase with hk|hk|hk
 ·have ef:=fun q q'=>ev_direct_FormOne I D P Q q q' d c hdw hcw (by omega) (by omega) hb hQ
  obtain ⟨g1,g2,g3⟩:=one_good P Q d c _ hu rfl lP1 lQ1 (fun v hv=>(bP v hv).le (by omega)) (fun v hv=>(bQ v hv).le (by omega))
  have hF:FormIs (formOneS P Q d c) (P.length-1+Q.length) c P Q:=⟨form_net hdw hcw (by omega) (by omega) hb hQ,one_small (by omega) (by omega) hb hQ,by simp [formOneS],g1,by omega,by rw[g2,num_fracs hcw],by rw[g3,num_fracs hcw]⟩
  refine ⟨_,_,c,P,Q,hF,hcw,hb,fun v h=>(hQ v h).1,lP1.2,lQ1,?_⟩
  have hcl:=(ef false false).clean
  generalize formOneS P Q d c=n at *
  rw[hk]at w0
  refine Ev.x N.law23_form rfl rfl ?_
  (repeat' (first|(refine CmpP.go (fun hc => ?_) (fun hc => ?_)<;>first|(exfalso;omega)|(conv=>whnf))|(refine OpP.add ?_ ?_;omega;conv=>whnf)|(refine OpP.sub ?_ ?_;omega;conv=>whnf)|(refine OpP.shl1 ?_ (fun _ _ => ?_);omega;conv=>whnf)|(refine ConvP.u64 ?_ ?_;omega;conv=>whnf)|(refine LenP.go ?_;conv=>whnf)|(refine AKM.x ?_;conv=>whnf)|(refine CallP.go (wd) ?_;conv=>whnf)|(refine CallP.go (wc) ?_;conv=>whnf)|(refine CallP.go (w0) ?_;conv=>whnf)|(refine CallP.go (w1) ?_;conv=>whnf)|(refine CallP.go (w2) ?_;conv=>whnf)|(refine CallP.go (eb _) ?_;conv=>whnf)|(refine CallP.go (ea _) ?_;conv=>whnf)|(refine CallP.go (hI _ _) ?_;conv=>whnf)|(refine CallP.go (ef _ _) ?_;conv=>whnf)))
  exact FinP.go rfl (by
   simp only[Clean,CleanL,true_and,and_true]at hcl ⊢
   exact ⟨hcl,cl_eQs _,cl_eQs _⟩)
 ·have ef:=fun q q'=>ev_direct_FormTwo I D P Q q q' d c hdw hcw (by omega) (by omega) hb hQ
  have e:=two_eq P Q d c _ hu rfl lP1 lQ1
  obtain ⟨g2,g3⟩:=ctl_tfU (n:=maxN P Q) (B:=fracs ((pw c.f:Int):Rat) P) (A:=1::fracs ((pw c.f:Int):Rat) Q) (by rw[List.length_cons,fl];omega) (by rw[fl];omega) rfl (by omega)
  have g1:=ctl_okK (n:=maxN P Q) sP sQ (by omega)
  rw[←e]at g1 g2 g3
  have hF:FormIs (formTwoS P Q d c) (maxN P Q) c P Q:=⟨two_netU hdw hcw (by omega) (by omega) hb hQ,two_small hcw (by omega) (by omega) hb hQ,by simp [formTwoS],g1,by omega,by rw[g2,num_fracs hcw],by rw[g3,num_fracs hcw]⟩
  refine ⟨_,_,c,P,Q,hF,hcw,hb,fun v h=>(hQ v h).1,lP1.2,lQ1,?_⟩
  have hcl:=(ef false false).clean
  generalize formTwoS P Q d c=n at *
  rw[hk]at w0
  refine Ev.x N.law23_form rfl rfl ?_
  (repeat' (first|(refine CmpP.go (fun hc => ?_) (fun hc => ?_)<;>first|(exfalso;omega)|(conv=>whnf))|(refine OpP.add ?_ ?_;omega;conv=>whnf)|(refine OpP.sub ?_ ?_;omega;conv=>whnf)|(refine OpP.shl1 ?_ (fun _ _ => ?_);omega;conv=>whnf)|(refine ConvP.u64 ?_ ?_;omega;conv=>whnf)|(refine LenP.go ?_;conv=>whnf)|(refine AKM.x ?_;conv=>whnf)|(refine CallP.go (wd) ?_;conv=>whnf)|(refine CallP.go (wc) ?_;conv=>whnf)|(refine CallP.go (w0) ?_;conv=>whnf)|(refine CallP.go (w1) ?_;conv=>whnf)|(refine CallP.go (w2) ?_;conv=>whnf)|(refine CallP.go (eb _) ?_;conv=>whnf)|(refine CallP.go (ea _) ?_;conv=>whnf)|(refine CallP.go (hI _ _) ?_;conv=>whnf)|(refine CallP.go (ef _ _) ?_;conv=>whnf)))
  exact FinP.go rfl (by
   simp only[Clean,CleanL,true_and,and_true]at hcl ⊢
   exact ⟨hcl,cl_eQs _,cl_eQs _⟩)
 ·have ef:=fun q q'=>ev_direct_Transposed I D P Q q q' d c hdw hcw (by omega) (by omega) hb hQ
  have e:=tr_eq P Q d c _ hu rfl lP1 lQ1
  obtain ⟨g2,g3⟩:=obs_tfU (n:=maxN P Q) (B:=fracs ((pw c.f:Int):Rat) P) (A:=1::fracs ((pw c.f:Int):Rat) Q) (by rw[List.length_cons,fl];omega) (by rw[fl];omega) rfl (by omega)
  have g1:=obs_okK (ctl_okK (n:=maxN P Q) sP sQ (by omega))
  rw[←e]at g1 g2 g3
  have hF:FormIs (transS P Q d c) (maxN P Q) c P Q:=⟨tr_netU hdw hcw (by omega) (by omega) hb hQ,tr_small hcw hb hQ,by simp [transS,trN];omega,g1,by omega,by rw[g2,num_fracs hcw],by rw[g3,num_fracs hcw]⟩
  refine ⟨_,_,c,P,Q,hF,hcw,hb,fun v h=>(hQ v h).1,lP1.2,lQ1,?_⟩
  have hcl:=(ef false false).clean
  generalize transS P Q d c=n at *
  rw[hk]at w0
  refine Ev.x N.law23_form rfl rfl ?_
  (repeat' (first|(refine CmpP.go (fun hc => ?_) (fun hc => ?_)<;>first|(exfalso;omega)|(conv=>whnf))|(refine OpP.add ?_ ?_;omega;conv=>whnf)|(refine OpP.sub ?_ ?_;omega;conv=>whnf)|(refine OpP.shl1 ?_ (fun _ _ => ?_);omega;conv=>whnf)|(refine ConvP.u64 ?_ ?_;omega;conv=>whnf)|(refine LenP.go ?_;conv=>whnf)|(refine AKM.x ?_;conv=>whnf)|(refine CallP.go (wd) ?_;conv=>whnf)|(refine CallP.go (wc) ?_;conv=>whnf)|(refine CallP.go (w0) ?_;conv=>whnf)|(refine CallP.go (w1) ?_;conv=>whnf)|(refine CallP.go (w2) ?_;conv=>whnf)|(refine CallP.go (eb _) ?_;conv=>whnf)|(refine CallP.go (ea _) ?_;conv=>whnf)|(refine CallP.go (hI _ _) ?_;conv=>whnf)|(refine CallP.go (ef _ _) ?_;conv=>whnf)))
  exact FinP.go rfl (by
   simp only[Clean,CleanL,true_and,and_true]at hcl ⊢
   exact ⟨hcl,cl_eQs _,cl_eQs _⟩)
end Go.Eng

namespace Go.Eng
open F
attribute [local irreducible] AKM CmpP Req OpP UnP ConvP RdP LdR StR MkR LenP AppR AppN CpyR RowP SnR Bds SlS CallP CalP FinP pw LdM GetM SetM PutM MkM AppM SnM FlP CallR
set_option maxHeartbeats 8000000
variable {L:Lib}
theorem getD_bt {l:List Rat} {k:Nat} (h:Bs k l) (i:Nat):Bt k (l.getD i 0):=by
 rw[List.getD_eq_getElem?_getD]
 cases e:l[i]? with
 | none=>exact Bt.zero k
 | some x=>exact h.at e
end Go.Eng

namespace Go.Eng
open F
attribute [local irreducible] AKM CmpP Req OpP UnP ConvP RdP LdR StR MkR LenP AppR AppN CpyR RowP SnR Bds SlS CallP CalP FinP pw LdM GetM SetM PutM MkM AppM SnM FlP CallR
set_option maxHeartbeats 8000000
variable {L:Lib}
theorem sgn3 (z:Int):sgn z = -1∧z<0∨sgn z=0∧z=0∨sgn z=1∧0<z:=by
 unfold sgn
 split
 ·exact Or.inl ⟨rfl,by omega⟩
 ·split
  ·exact Or.inr (Or.inr ⟨rfl,by omega⟩)
  ·exact Or.inr (Or.inl ⟨rfl,by omega⟩)
theorem cmp_sgn {a b:Nat} {z:Int} (h:z=(a:Int)-b):cmpS a b=sgn z:=by
 unfold cmpS sgn
 subst h
 repeat' split
 all_goals omega
theorem ev_integer_Compare (N:StGLib L) (n1 n2 q1 q2:Bool) (a b:List Nat) (ha:Sm 549755813888 a) (hb:Sm 549755813888 b):Ev L 197 [.agg (rZ q1 n1 a),.agg (rZ q2 n2 b)] (.int .i64 (sgn (zv n1 a-zv n2 b))):=by
 have h1:=fun q=>ev_integer_Sign N.toRatGLib n1 q a ha
 have h2:=fun q=>ev_integer_Sign N.toRatGLib n2 q b hb
 have h3:=fun q q'=>ev_nat_Compare N.toNatGLib a b q q' ha.1 hb.1 (by have:=ha.2;omega) (by have:=hb.2;omega)
 have h4:=fun q q'=>ev_nat_Compare N.toNatGLib b a q q' hb.1 ha.1 (by have:=hb.2;omega) (by have:=ha.2;omega)
 have za:=zv_abs n1 a
 have zb:=zv_abs n2 b
 generalize zv n1 a=x at *
 generalize zv n2 b=y at *
 rcases sgn3 x with ⟨e1,g1⟩|⟨e1,g1⟩|⟨e1,g1⟩<;>rcases sgn3 y with ⟨e2,g2⟩|⟨e2,g2⟩|⟨e2,g2⟩
 all_goals
  rw[e1]at h1
  rw[e2]at h2
  refine Ev.x N.integer_Compare rfl rfl ?_
  (repeat' (first|(refine CmpP.go (fun hc => ?_) (fun hc => ?_)<;>first|(exfalso;omega)|(conv=>whnf))|(refine AKM.x ?_;conv=>whnf)|(refine CallP.go (h1 _) ?_;conv=>whnf)|(refine CallP.go (h2 _) ?_;conv=>whnf)|(refine CallP.go (h3 _ _) ?_;conv=>whnf)|(refine CallP.go (h4 _ _) ?_;conv=>whnf)))
  first
   | exact FinP.i (sgn_neg (by omega))
   | exact FinP.i (sgn_pos (by omega))
   | exact FinP.i (cmp_sgn (by omega))
theorem ev_rational_Compare (N:StGLib L) (k:Nat) (hk:1≤k∧k≤68719476736) (n1 n2:Bool) (m1 d1 m2 d2:List Nat) (hm1:Sm k m1) (hd1:Sm k d1) (hm2:Sm k m2) (hd2:Sm k d2) :
  Ev L 198 [.agg (rQ false false n1 m1 d1),.agg (rQ false false n2 m2 d2)] (.int .i64 (sgn (qv n1 m1 d1-qv n2 m2 d2).num)):=by
 obtain ⟨a1,a2,a3,w1,hr1,s1,s2,s3,s4,s5⟩:=ev_read N.toRatGLib n1 m1 d1 k (by omega) hm1 hd1
 obtain ⟨b1,b2,b3,w2,hr2,t1,t2,t3,t4,t5⟩:=ev_read N.toRatGLib n2 m2 d2 k (by omega) hm2 hd2
 rw[s5,t5,←mk_cmp s3 t3]
 by_cases hw:w1=true∧w2=true
 ·obtain ⟨rfl,rfl⟩:=hw
  have hC:=fun q q'=>ev_integer_Compare N a1 b1 q q' a2 b2 (s1.le (by omega)) (t1.le (by omega))
  rw[s4 rfl,t4 rfl]
  rw[show zv a1 a2*((1:Nat):Int)-zv b1 b2*((1:Nat):Int)=zv a1 a2-zv b1 b2 by omega]
  refine Ev.x N.rational_Compare rfl rfl ?_
  (repeat' (first|(refine FlP.n4 ?_;conv=>whnf)|(refine AKM.x ?_;conv=>whnf)|(refine CallP.go (hr1) ?_;conv=>whnf)|(refine CallP.go (hr2) ?_;conv=>whnf)|(refine CallP.go (hC _ _) ?_;conv=>whnf)))
  exact FinP.i rfl
 ·have hM1:=fun q q'=>ev_integer_Mul N.toRatGLib a1 false q q' a2 b3 s1.1 t2.1 (by have:=s1.2;have:=t2.2;omega)
  have hM2:=fun q q'=>ev_integer_Mul N.toRatGLib b1 false q q' b2 a3 t1.1 s2.1 (by have:=t1.2;have:=s2.2;omega)
  have hna:=ev_natural N.toRatGLib a3
  have hnb:=ev_natural N.toRatGLib b3
  have g1:Sm (k+k) (dg (zv a1 a2*zv false b3).natAbs):=sm_zmul s1 t2
  have g2:Sm (k+k) (dg (zv b1 b2*zv false a3).natAbs):=sm_zmul t1 s2
  have hC:=fun q q'=>ev_integer_Compare N (decide (zv a1 a2*zv false b3<0)) (decide (zv b1 b2*zv false a3<0)) q q' _ _ (g1.le (by omega)) (g2.le (by omega))
  rw[zv_of,zv_of]at hC
  rw[←zv_F b3,←zv_F a3]
  generalize zv a1 a2*zv false b3=x at *
  generalize zv b1 b2*zv false a3=y at *
  refine Ev.x N.rational_Compare rfl rfl ?_
  cases w1<;>cases w2
  ·(repeat' (first|(refine FlP.n4 ?_;conv=>whnf)|(refine FlP.n2 ?_;conv=>whnf)|(refine AKM.x ?_;conv=>whnf)|(refine CallP.go (hr1) ?_;conv=>whnf)|(refine CallP.go (hr2) ?_;conv=>whnf)|(refine CallP.go (hna) ?_;conv=>whnf)|(refine CallP.go (hnb) ?_;conv=>whnf)|(refine CallP.go (hM1 _ _) ?_;conv=>whnf)|(refine CallP.go (hM2 _ _) ?_;conv=>whnf)|(refine CallP.go (hC _ _) ?_;conv=>whnf)))
   exact FinP.i rfl
  ·(repeat' (first|(refine FlP.n4 ?_;conv=>whnf)|(refine FlP.n2 ?_;conv=>whnf)|(refine AKM.x ?_;conv=>whnf)|(refine CallP.go (hr1) ?_;conv=>whnf)|(refine CallP.go (hr2) ?_;conv=>whnf)|(refine CallP.go (hna) ?_;conv=>whnf)|(refine CallP.go (hnb) ?_;conv=>whnf)|(refine CallP.go (hM1 _ _) ?_;conv=>whnf)|(refine CallP.go (hM2 _ _) ?_;conv=>whnf)|(refine CallP.go (hC _ _) ?_;conv=>whnf)))
   exact FinP.i rfl
  ·(repeat' (first|(refine FlP.n4 ?_;conv=>whnf)|(refine FlP.n2 ?_;conv=>whnf)|(refine AKM.x ?_;conv=>whnf)|(refine CallP.go (hr1) ?_;conv=>whnf)|(refine CallP.go (hr2) ?_;conv=>whnf)|(refine CallP.go (hna) ?_;conv=>whnf)|(refine CallP.go (hnb) ?_;conv=>whnf)|(refine CallP.go (hM1 _ _) ?_;conv=>whnf)|(refine CallP.go (hM2 _ _) ?_;conv=>whnf)|(refine CallP.go (hC _ _) ?_;conv=>whnf)))
   exact FinP.i rfl
  ·exact absurd ⟨rfl,rfl⟩ hw
theorem ev_cmpQ (N:StGLib L) {x y:Rat} {k l:Nat} (hx:Bt k x) (hy:Bt l y) (hk:k<2199023255552) (hl:l<2199023255552):Ev L 198 [.agg (eQ x),.agg (eQ y)] (.int .i64 (sgn (x-y).num)):=by
 have:=ev_rational_Compare N 68719476736 (by omega) (decide (x.num<0)) (decide (y.num<0)) _ _ _ _ (hx.sm hk).1 (hx.sm hk).2 (hy.sm hl).1 (hy.sm hl).2
 rw[qv_of,qv_of]at this
 exact this
theorem ev_pDegree (N:StGLib L) (q:Bool) (l:List Rat) (k:Nat) (hl:Bs k l) (hk:k<2199023255552) (hn:l.length≤1000000):Ev L 200 [.sl q (l.map eQ)] (.int .i64 ((cutN l l.length:Int)-1)):=by
 refine Ev.x N.poly_Degree rfl rfl ?_
 (repeat' (refine AKM.x ?_;conv=>whnf))
 refine CalP.walk 1000 N.poly_cut rfl rfl ?_
 (repeat' (first|(refine LenP.go ?_;conv=>whnf)|(refine AKM.x ?_;conv=>whnf)))
 refine AKM.loop1 (fun n=>n) (fun (n:Nat)=>n≤l.length∧cutN l l.length=cutN l n) (fun n=>[(3,.int .i64 n)]) (fun _=>[]) [] [] l.length (by (conv=>whnf);exact ⟨rfl,rfl,rfl⟩) ⟨Nat.le_refl _,rfl⟩ ?_
 intro n ⟨p1,p2⟩ ih
 have done : ∀ {n:Nat},cutN l l.length=n→trimQ l=l.take n:=fun h=>by rw[trimQ,h]
 by_cases hz:n=0∨(∃ m x,n=m+1∧l[m]? = some x∧x≠0)
 ·have hcut:cutN l l.length=n:=by
   rw[p2]
   rcases hz with rfl|⟨m,x,rfl,h1,h2⟩
   ·rfl
   ·rw[cutN,if_neg]
    rw[List.getD_eq_getElem?_getD,h1];exact h2
  have htq:=done hcut
  have htl:(l.take n).length=n:=by rw[List.length_take];omega
  clear ih hcut p2 done
  rcases hz with h0|⟨m,x,hnm,h1,h2⟩
  case' inl=>(repeat' (first|(refine CmpP.go (fun hc => ?_) (fun hc => ?_)<;>first|(exfalso;omega)|(conv=>whnf))|(refine AKM.x ?_;conv=>whnf)))
  case' inr =>
   have h1':l[((n:Int)-1).toNat]? = some x:=by rw[show ((n:Int)-1).toNat=m by omega];exact h1
   have hS':=ev_signQ N.toRatGLib (hl.at h1) (by omega)
   have hs:=sgn_num (x:=x)
   generalize sgn x.num=s at *
   have hS : ∀ v,l[((n:Int)-1).toNat]? = some v→Ev L 97 [.agg (eQ v)] (.int .i64 s):=fun v h=>by
    obtain rfl:=Option.some.inj (h1'.symm.trans h)
    exact hS'
   have hs0:s≠0:=fun h=>h2 (hs.1 h)
   (repeat' (first|(refine CmpP.go (fun hc => ?_) (fun hc => ?_)<;>first|(exfalso;omega)|(conv=>whnf))|(refine OpP.sub ?_ ?_;omega;conv=>whnf)|(refine RdP.at (by assumption) ?_ rfl ?_;omega;conv=>whnf)|(refine AKM.x ?_;conv=>whnf)|(refine CallP.go (hS') ?_;conv=>whnf)))
  all_goals
   refine SlS.to (enc:=eQ) (fun _=>rfl) p1 ?_
   (conv=>whnf)
   skip
   refine ⟨rfl,_,rfl,?_⟩
   (conv=>whnf)
   (repeat' (first|(refine OpP.sub ?_ ?_;omega;conv=>whnf)|(refine LenP.go ?_;conv=>whnf)))
   have hcut':cutN l l.length=n:=by rw[←trimQ_len,htq,htl]
   rw[hcut']
   exact FinP.i (by rw[htl])
 ·obtain ⟨m,rfl⟩ : ∃ m,n=m+1:=⟨n-1,by omega⟩
  obtain ⟨x,hx⟩ : ∃ x,l[m]? = some x:=⟨_,List.getElem?_eq_getElem (by omega)⟩
  have hx0:x=0:=by
   rcases Classical.em (x=0) with h|h
   ·exact h
   ·exact (hz (Or.inr ⟨m,x,rfl,hx,h⟩)).elim
  have hx':l[((m+1:Nat)-1:Int).toNat]? = some x:=by rw[show ((m+1:Nat)-1:Int).toNat=m by omega];exact hx
  have hS':=ev_signQ N.toRatGLib (hl.at hx) (by omega)
  have hs:=sgn_num (x:=x)
  generalize sgn x.num=s at *
  have hS : ∀ v,l[((m+1:Nat)-1:Int).toNat]? = some v→Ev L 97 [.agg (eQ v)] (.int .i64 s):=fun v h=>by
   obtain rfl:=Option.some.inj (hx'.symm.trans h)
   exact hS'
  have hs0:=hs.2 hx0
  (repeat' (first|(refine CmpP.go (fun hc => ?_) (fun hc => ?_)<;>first|(exfalso;omega)|(conv=>whnf))|(refine OpP.sub ?_ ?_;omega;conv=>whnf)|(refine RdP.at (by assumption) ?_ rfl ?_;omega;conv=>whnf)|(refine AKM.x ?_;conv=>whnf)|(refine CallP.go (hS') ?_;conv=>whnf)))
  rw[show ((m+1:Nat):Int)-1=(m:Int) by omega]
  exact AKM.back [] (by (conv=>whnf);exact ⟨rfl,rfl,rfl⟩) (ih m (by omega) ⟨by omega,by rw[p2,cutN,if_pos (by rw[List.getD_eq_getElem?_getD,hx];exact hx0)]⟩)
end Go.Eng

namespace Go.Eng
open F
attribute [local irreducible] AKM CmpP Req OpP UnP ConvP RdP LdR StR MkR LenP AppR AppN CpyR RowP SnR Bds SlS CallP CalP FinP pw LdM GetM SetM PutM MkM AppM SnM FlP CallR
set_option maxHeartbeats 4000000
variable {L:Lib}
end Go.Eng

namespace Go.Eng
theorem LdM.st {R:List (Option (Nat × List (List AV)))} {i e z:Nat} {es:List (List AV)} {K:Option (Nat × List (List AV))→Prop} (he:e=i) (hi:i<R.length) (h:K (some (z,es))):LdM (R.set i (some (z,es))) e K:=by
 subst he
 exact ⟨_,by rw[List.getElem?_set,if_pos rfl,if_pos hi],h⟩
theorem GetM.st {R:List (Option (Nat × List (List AV)))} {i e z:Nat} {es:List (List AV)} {K:Nat→List (List AV)→Prop} (he:e=i) (hi:i<R.length) (h:K z es):GetM (R.set i (some (z,es))) e K:=by
 subst he
 exact ⟨z,es,by rw[List.getElem?_set,if_pos rfl,if_pos hi],h⟩
theorem PutM.st {R:List (Option (Nat × List (List AV)))} {i e z:Nat} {es es':List (List AV)} {K:List (Option (Nat × List (List AV)))→Prop} (he:e=i) (hl:es'.length=es.length) (h:K (R.set i (some (z,es')))):PutM (R.set i (some (z,es))) e z es es' K:=by
 subst he
 exact ⟨hl,by rw[List.set_set];exact h⟩
theorem SetM.fz {R:List (Option (Nat × List (List AV)))} {i e z:Nat} {es:List (List AV)} {K:List (Option (Nat × List (List AV)))→Prop} (he:e=i) (hi:i<R.length) (h:K (R.set i (some (z,es)))):SetM R e z es K:=by
 subst he
 exact ⟨hi,h⟩
end Go.Eng

namespace Go.Eng
open F
attribute [local irreducible] AKM CmpP Req OpP UnP ConvP RdP LdR StR MkR LenP AppR AppN CpyR RowP SnR Bds SlS CallP CalP FinP pw LdM GetM SetM PutM MkM AppM SnM FlP CallR
set_option maxHeartbeats 16000000
variable {L:Lib}
end Go.Eng

namespace Go.Eng
open F
attribute [local irreducible] AKM CmpP Req OpP UnP ConvP RdP LdR StR MkR LenP AppR AppN CpyR RowP SnR Bds SlS CallP CalP FinP pw LdM GetM SetM PutM MkM AppM SnM FlP CallR
set_option maxHeartbeats 16000000
variable {L:Lib}
theorem ev_rValid (N:StGLib L) (q1 q2:Bool) (B A:List Rat) (k:Nat) (hB:Bs k B) (hA:Bs k A) (hk:k<2199023255552) (lB:B.length≤49) (lA:A.length≤49) (h0:A[0]? = some 1):Ev L 201 [.agg [.sl q1 (B.map eQ),.sl q2 (A.map eQ)]] (.bool true):=by
 have c1:=cutN_le B B.length
 have c2:=cutN_le A A.length
 have hD1:=ev_pDegree N q1 B k hB hk (by omega)
 have hD2:=ev_pDegree N q2 A k hA hk (by omega)
 have hO:=ev_rational_Of N.toRatGLib 1 (by omega)
 have hC:=ev_cmpQ N (Bt.one 1) (Bt.one 1) (by omega) (by omega)
 rw[sgn_sub.2 rfl]at hC
 have hAl:0<A.length:=(List.getElem?_eq_some_iff.1 h0).1
 have h0':A[(0:Int).toNat]? = some 1:=h0
 generalize cutN B B.length=d1 at *
 generalize cutN A A.length=d2 at *
 refine Ev.x N.response_Valid rfl rfl ?_
 (repeat' (first|(refine CmpP.go (fun hc => ?_) (fun hc => ?_)<;>first|(exfalso;omega)|(conv=>whnf))|(refine LenP.go ?_;conv=>whnf)|(refine RdP.at (by assumption) ?_ rfl ?_;omega;conv=>whnf)|(refine AKM.x ?_;conv=>whnf)|(refine CallP.go (hD1) ?_;conv=>whnf)|(refine CallP.go (hD2) ?_;conv=>whnf)|(refine CallP.go (hO) ?_;conv=>whnf)|(refine CallP.go (hC) ?_;conv=>whnf)))
 exact FinP.b rfl
theorem take_snocX {α:Type} {l:List α} {i:Nat} {x:α} (h:l[i]? = some x):l.take (i+1)=l.take i++[x]:=by
 rw[List.take_add_one,h];rfl
end Go.Eng
